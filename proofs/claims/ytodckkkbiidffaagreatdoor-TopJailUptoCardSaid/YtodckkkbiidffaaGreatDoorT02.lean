/- Part 2 of 39: what the law stands on. -/
import Derived.Test.YtodckkkbiidffaaGreatDoorT01
import Derived.Laws.BytesArg
import Derived.RangeFuncLeaves
import Derived.RangeFuncRecord
set_option linter.unusedVariables false
set_option linter.unusedSimpArgs false
set_option linter.unnecessarySimpa false
set_option maxRecDepth 100000
set_option maxHeartbeats 64000000
namespace Go.AM
inductive X where
 |t (n:Nat)
 |c (v:CV)
inductive Kd where
 |b
 |i
 |s
inductive Ky where
 |i (k:IntKind)
 |s
 |b
inductive I where
 |aF (x:X)
 |pick (c a b:X)
 |alloc (z:List CC)
 |box (x:X)
 |build (z:List CC) (parts:List (Nat×Nat×X))
 |l5 (esz:Nat) (z:List CC) (len:Nat) (parts:List (Nat×X))
 |load (agg:Bool) (n:Nat) (a:X)
 |store (n:Nat) (a x:X)
 |bX (off:Nat) (a:X)
 |Qx (agg:Bool) (off n:Nat) (a:X)
 |cr (esz:Nat) (a i:X)
 |yS (len esz:Nat) (a i:X)
 |yT (a i:X)
 |aH (op:BinOp) (x y:X)
 |K7 (neg:Bool) (ks:List Kd) (x y:X)
 |beq (neg:Bool) (x y:X)
 |un (op:UnOp) (x:X)
 |conv (k:IntKind) (x:X)
 |Qy (x:X)
 |Oa (x:X)
 |Oc (x:X)
 |mD (esz:Nat) (x:X) (lo hi mx:Option X)
 |Bl (x:X) (lo hi:Option X)
 |fn (f:Nat) (dJ:List X)
 |len (k:Nat) (x:X)
 |mE (esz bytes:Nat) (dst src:X)
 |call (f:X) (args:List X)
 |ext (x:X) (i:Nat)
 |aT (x:X)
 |u5 (neg:Bool) (x:X)
 |sV
 |nl (esz bytes:Nat) (z:List CC) (n c:X)
 |E9 (z:RV) (kk:Ky) (m k:X) (ok:Bool)
 |wY (kk:Ky) (m k v:X)
 |hC (mx:Bool) (xs:List X)
 |Uw (m k:X)
 |copy (esz:Nat) (dst src:X)
 |P5 (esz:Nat) (z:List CC) (x:X)
 |Hy (agg:Bool) (n sz:Nat) (x i:X)
 |TH (x:X)
 |TI (x:X)
 |ru (x:X)
 |TJ (x:X)
structure LO where
 dst:Option Nat
 yG:I
 guard:Option (Nat×Bool)
inductive l6 where
 |nil
 |cons (i:Nat) (HA:Option (List Nat)) (r:l6)
 |yU (a b:l6)
inductive LC where
 |skip
 |ai (ops:List LO)
 |bU (bO:List LO) (n8:List l6)
 |seq (a b:LC)
 |cond (x:X) (a b:LC)
 |block (id:Nat) (b:LC)
 |loop (b:LC)
 |exit (id:Nat)
 |ret
 |cI (a:LC)
 |u6 (x:X) (p:Nat) (a b:LC)
def LC.er:LC->LC
 | .seq a b=>.seq a.er b.er
 | .cond x a b=>.cond x a.er b.er
 | .block id b=>.block id b.er
 | .loop b=>.loop b.er
 | .cI a=>a.er
 | .u6 x p a b=>.u6 x p a.er b.er
 | .skip=>.skip
 | .ai ops=>.ai ops
 | .bU a b=>.bU a b
 | .exit id=>.exit id
 | .ret=>.ret
def LC.oT:LC->Bool
 | .seq a b=>a.oT&&b.oT
 | .cond _ a b=>a.oT&&b.oT
 | .block _ b=>b.oT
 | .loop b=>b.oT
 | .cI a=>a.oT
 | .u6 _ _ _ _=>false
 |_=>true
inductive Rv where
 |tmp (t:Nat)
 |cell (agg:Bool) (n:Nat) (t:Nat)
structure LF where
 n:Nat
 jW:List Rv
 code:LC
def LF.er(f:LF):LF:=⟨f.n,f.jW,f.code.er⟩
def cR{α:Type}:List α->Nat->Option α
 | [],_=>none
 |x::_,0=>some x
 |_::r,k+1=>cR r k
def aZ{α:Type}:List α->Nat->α->List α
 | [],_,_=>[]
 |_::r,0,y=>y::r
 |x::r,k+1,y=>x::aZ r k y
def gQ{α:Type}{β:Sort _}:List α->(List α->β)->β
 | [],k=>k []
 |x::r,k=>gQ r fun r'=>k (x::r')
def iV:List CV->Nat->CV
 | [],_=>.ar
 |x::_,0=>x
 |_::r,k+1=>iV r k
def X.ev(e:List CV):X->CV
 | .t n=>iV e n
 | .c v=>v
def ok{α:Type}(o:Option α)(K:α->Prop):Prop:= @Option.rec α (fun _=>Prop) False K o
def bB(t:Bool)(A B:Prop):Prop:= @Bool.rec (fun _=>Prop) B A t
def gR:List CC->Nat->Nat->Option (List CC)
 |_,0,0=>some []
 | [],_,_=>none
 |c::cs,0,n+1=>match gR cs 0 n with|some l=>some (c::l)|none=>none
 |_::cs,j+1,n=>gR cs j n
def fG:List CC->Nat->List CC->Option (List CC)
 |cs,0,[]=>some cs
 | [],_,_=>none
 |_::cs,0,x::xs=>match fG cs 0 xs with|some l=>some (x::l)|none=>none
 |c::cs,j+1,xs=>match fG cs j xs with|some l=>some (c::l)|none=>none
def sW:List Dt->Nat->Option (List CC)
 |_,0=>some []
 | [],_+1=>none
 |d::ds,n+1=>match sW ds n with|some l=>some (.aa d::l)|none=>none
def cellsOf:CV->Option (List CC)
 | .rv (.one c)=>some [c]
 | .rv (.agg cs)=>some cs
 |_=>none
def Bm:CV->Option RV
 | .rv r=>some r
 |_=>none
def HB(agg:Bool)(l:List CC):Option CV:=
 match agg,l with
 |true,l=>some (.rv (.agg l))
 |false,[c]=>some (.rv (.one c))
 |false,_=>none
def gS:List CC->Bool
 | []=>true
 | .gh _ _::_=>false
 |_::r=>gS r
def dg{α:Type}(l:List α):Int->Option α
 | .ofNat k=>cR l k
 | .negSucc _=>none
def dp(n:Int)(len:Nat):Option Nat:=
 match n with
 | .ofNat k=>match Nat.blt k len with|true=>some k|false=>none
 | .negSucc _=>none
def gu(a b:Nat):Nat:=match a with|0=>b|a=>a+b
def lenOf(elems:Nat)(lo:Nat)(hi:Option Nat):Nat:=
 match lo,hi with
 |0,none=>elems
 |0,some h=>h
 |lo,none=>elems-lo
 |lo,some h=>h-lo
def cu{α:Type}(l:List α)(lo:Nat)(hi:Option Nat):List α:=
 match lo,hi with
 |0,none=>l
 |0,some h=>l.take h
 |lo,none=>l.drop lo
 |lo,some h=>(l.take h).drop lo
def mF(e:List CV):List CC->List (Nat×Nat×X)->Option (List CC)
 |z,[]=>some z
 |z,(off,sz,x)::r=>match cellsOf (x.ev e)with
  |some cs=>match Nat.beq cs.length sz with
   |true=>match fG z off cs with
    |some z'=>mF e z' r
    |none=>none
   |false=>none
  |none=>none
def rx(e:List CV)(esz:Nat):List (List CC)->List (Nat×X)->Option (List (List CC))
 |z,[]=>some z
 |z,(i,x)::r=>match cellsOf (x.ev e)with
  |some cs=>match Nat.beq cs.length esz&&Nat.blt i z.length with
   |true=>rx e esz (aZ z i cs) r
   |false=>none
  |none=>none
def fC{α:Type}:Nat->α->List α
 |0,_=>[]
 |n+1,x=>x::fC n x
def DN(e:List CV):List X->List CV
 | []=>[]
 |x::r=>x.ev e::DN e r
def sX:List CV->Option (List Nat)
 | []=>some []
 | .rv (.one (.ptr id 0))::r=>match sX r with|some l=>some (id::l)|none=>none
 |_=>none
def sG:List Nat->List CV
 | []=>[]
 |id::r=>.rv (.one (.ptr id 0))::sG r
def gL{α:Type}:List α->List α->List α
 | [],l=>l
 |x::r,l=>x::gL r l
def sY{β:Sort _}(m0:Mem):Mem->List Nat->(Nat->β)->β
 | [],n::_,k=>k n
 |_::r,_::ls,k=>sY m0 r ls k
 |_,[],k=>k m0.length
def n9{β:Sort _}(m:Mem)(k:Nat->β):β:=
 sY m m [0,1,2,3,4,5,6,7,8,9,10,11,12,13,14,15,16,17,18,19,20,21,22,23,24,25,26,27,28,29,30,31,32,33,34,35,36,37,38,39,40,41,42,43,44,45,46,47,48,49,50,51,52,53,54,55,56,57,58,59,60,61,62,63] k
def an(k:IntKind)(n:Int):CV:= .rv (.one (.aa (.val (.int k n))))
def ay(b:Bool):CV:= .rv (.one (.aa (.val (.bool b))))
def dh(s:ByteArray):CV:= .rv (.one (.aa (.val (.string s))))
def Fa(op:BinOp):Value->Value->Option Value
 | .int k a,.int k' b=>
  match op with
  | .shl=>match decide (b<0)with|false=>some (.int k (k.wrap (a*2^(min b.toNat k.bits))))|true=>none
  | .shr=>match decide (b<0)with|false=>some (.int k (a.fdiv (2^(min b.toNat k.bits))))|true=>none
  |op=>match decide (k=k')with
   |false=>none
   |true=>match op with
    | .add=>some (.int k (k.wrap (a+b)))
    | .sub=>some (.int k (k.wrap (a-b)))
    | .mul=>some (.int k (k.wrap (a*b)))
    | .quo=>match decide (b=0)with|false=>some (.int k (k.wrap (a.tdiv b)))|true=>none
    | .rem=>match decide (b=0)with|false=>some (.int k (a.tmod b))|true=>none
    | .and=>some (.int k (k.wrap (BitVec.ofInt k.bits a&&&BitVec.ofInt k.bits b).toNat))
    | .or=>some (.int k (k.wrap (BitVec.ofInt k.bits a|||BitVec.ofInt k.bits b).toNat))
    | .xor=>some (.int k (k.wrap (BitVec.ofInt k.bits a^^^BitVec.ofInt k.bits b).toNat))
    | .andNot=>some (.int k (k.wrap (BitVec.ofInt k.bits a&&& ~~~ BitVec.ofInt k.bits b).toNat))
    | .eql=>some (.bool (a==b))
    | .neq=>some (.bool (a !=b))
    | .lss=>some (.bool (decide (a<b)))
    | .leq=>some (.bool (decide (a<=b)))
    | .gtr=>some (.bool (decide (a>b)))
    | .geq=>some (.bool (decide (a>=b)))
    |_=>none
 | .string a,.string b=>
  match op with
  | .add=>match decide (((a.size+b.size:Nat):Int)>IntKind.i64.max)with|false=>some (.string (a++b))|true=>none
  | .eql=>some (.bool (a.toList==b.toList))
  | .neq=>some (.bool (!(a.toList==b.toList)))
  | .lss=>some (.bool (Op.bytesLess a.toList b.toList))
  | .leq=>some (.bool (Op.bytesLess a.toList b.toList||a.toList==b.toList))
  | .gtr=>some (.bool (!(Op.bytesLess a.toList b.toList||a.toList==b.toList)))
  | .geq=>some (.bool (!(Op.bytesLess a.toList b.toList)))
  |_=>none
 |_,_=>none
def TK(op:UnOp):Value->Option Value
 | .bool b=>match op with| .not=>some (.bool (!b))|_=>none
 | .int k n=>match op with| .neg=>some (.int k (k.wrap (0-n)))|_=>none
 |_=>none
def K8:Kd->Value->Value->Option Bool
 | .i,.int k a,.int k' b=>match decide (k=k')with|true=>some (a==b)|false=>none
 | .s,.string a,.string b=>some (a.toList==b.toList)
 | .b,.bool a,.bool b=>some (a==b)
 |_,_,_=>none
def iW:List Kd->List CC->List CC->Option Bool
 | [],[],[]=>some true
 |k::ks,.aa (.val a)::r,.aa (.val b)::s=>match K8 k a b,iW ks r s with
  |some x,some y=>some (x&&y)
  |_,_=>none
 |_,_,_=>none
def aq(P:Program)(f:Nat)(args:List CV)(m:Mem)(K:CV->Mem->Prop):Prop:=
 (∃fn,P.funcs[f]? =some fn/\fn.body.isSome=true/\(fn.name== "runtime.NumGoroutine")=false)/\
 ∀(ρ:bG)(w:World)(vs:List Value),aA ρ m w->vs.length=args.length->(∀(i:Nat)c,args[i]? =some c->∃v,vs[i]? =some v/\bV ρ w c v)->
  Calls P f vs.toArray w fun e w'=>∃v r m' ρ',e= .returned v/\K r m'/\aA ρ' m' w'/\bV ρ' w' r v/\Ext ρ m w ρ' m' w'
def fV{β:Sort _}(v:CV)(k:CV->β):β:=
 match v with
 | .ar=>k .ar
 | .undef=>k .undef
 | .rv r=>match r with
  | .one c=>k (.rv (.one c))
  | .agg cs=>gQ cs fun cs=>k (.rv (.agg cs))
 | .bF rs=>k (.bF rs)
def vB(a b:Value):Option Bool:=
 match a,b with
 | .int k x,.int k' y=>match decide (k=k')with|true=>some (x==y)|false=>none
 | .string x,.string y=>some (x==y)
 | .bool x,.bool y=>some (x==y)
 |_,_=>none
def yV(k:Value):List ME->Option (Option RV)
 | []=>some none
 |e::es=>match vB k e.key with
  |some true=>some (some e.val)
  |some false=>yV k es
  |none=>none
def HC(k:Value)(v:RV):List ME->Option (List ME)
 | []=>some [⟨k,v⟩]
 |e::es=>match vB k e.key with
  |some true=>some (⟨k,v⟩::es)
  |some false=>match HC k v es with|some l=>some (e::l)|none=>none
  |none=>none
def sZ(e:List CV)(m:Mem)(agg:Bool)(n:Nat)(a:CV)(K:CV->Prop):Prop:=
 match a with
 | .rv (.one (.ptr id j))=>ok (cR m id) fun bk=>match bk with
  | .var cs=>ok (gR cs j n) fun l=>ok (HB agg l) K
  |_=>False
 | .rv (.one (.lC id esz i j))=>ok (cR m id) fun bk=>match bk with
  | .row mG elems=>bB (Nat.beq esz mG) (ok (cR elems i) fun cells=>ok (gR cells j n) fun l=>bB (gS l) (ok (HB agg l) K) False) False
  |_=>False
 | .rv (.one (.oR ds))=>ok (sW ds n) fun l=>ok (HB agg l) K
 |_=>False
def eK(m:Mem)(esz:Nat)(v:CV):Option (List (List CC)):=
 match v with
 | .rv (.one (.aa (.sl e elems)))=>match Nat.beq e esz with
  |true=>some (elems.map fun ds=>ds.map .aa)
  |false=>none
 | .rv (.one (.row id e lo hi))=>match cR m id with
  |some (.row e2 rows)=>match Nat.beq e esz,Nat.beq e2 esz with
   |true,true=>some (cu rows lo hi)
   |_,_=>none
  |_=>none
 | .rv (.one .aB)=>some []
 |_=>none
def gM(m:Mem)(v:CV):Mem:=
 match v with
 | .rv (.one (.row id _ _ _))=>aZ m id .aO
 |_=>m
def s7(v:CV):Bool:=
 match v with
 | .rv (.one (.row _ _ _ _))=>true
 | .rv (.one .aB)=>true
 |_=>false
def DO(a b:CV):Bool:=
 match a,b with
 | .rv (.one (.row i _ _ _)),.rv (.one (.row j _ _ _))=>!(Nat.beq i j)
 |_,_=>true
def CC.gS:CC->Bool
 | .gh _ _=>false
 |_=>true
def oa:List CC->Bool
 | []=>true
 |c::r=>c.gS&&oa r
def eN:List (List CC)->Bool
 | []=>true
 |c::r=>oa c&&eN r
def cF{α:Type}(l:List α)(h:Nat)(E:List α):List α:=l.take h++(E++l.drop (h+E.length))
def oc(hi:Option Nat)(n:Nat):Nat:=match hi with|some h=>h|none=>n
def nC(v:CV):Option Nat:=
 match v with
 | .rv (.one (.aa (.val (.int _ (.ofNat k)))))=>some k
 |_=>none
def jr(e:List CV)(o:Option X)(d:Nat):Option Nat:=
 match o with
 |none=>some d
 |some x=>nC (x.ev e)
def TL(v:CV):Bool:=
 match v with
 | .rv (.one (.aa (.val (.int _ n))))=>decide (n=0)
 |_=>false
def Bn(e:List CV)(o:Option X):Bool:=
 match o with
 |none=>false
 |some x=>TL (x.ev e)
def HD(v:CV):Bool:=
 match v with
 | .rv (.one (.aa (.sl _ _)))=>true
 | .rv (.one (.row _ _ _ _))=>true
 | .rv (.one .aB)=>true
 |_=>false
def nK:List (List CC)->Option (List Int)
 | []=>some []
 | [.aa (.val (.int .u8 n))]::r=>match nK r with|some l=>some (n::l)|none=>none
 |_=>none
def js(s:ByteArray):List (List CC):=s.data.toList.map fun b=>[.aa (.val (.int .u8 b.toNat))]
def HE(m:Mem)(v:CV):Option (List ME):=
 match v with
 | .rv (.one (.map id))=>match cR m id with|some (.mp es)=>some es|_=>none
 | .rv (.one (.aa (.val (.map none))))=>some []
 |_=>none
def u7:Ky->Value->Bool
 | .i k,.int k' _=>decide (k'=k)
 | .s,.string _=>true
 | .b,.bool _=>true
 |_,_=>false
def Qz(okF:Bool)(z:RV)(o:Option RV):CV:=
 match okF,o with
 |false,none=>.rv z
 |false,some v=>.rv v
 |true,none=>.bF [z,.one (.aa (.val (.bool false)))]
 |true,some v=>.bF [v,.one (.aa (.val (.bool true)))]
def oU:List ME->Option (List (Value×Value))
 | []=>some []
 |⟨k,.one (.aa (.val v))⟩::r=>match cG k&&cG v with
  |true=>(oU r).map ((k,v):: ·)
  |false=>none
 |_=>none
def step(P:Program)(i:I)(e:List CV)(m:Mem)(K:CV->Mem->Prop):Prop:=
 match i with
 | .aF x=>K (x.ev e) m
 | .pick c a b=>match c.ev e with
  | .rv (.one (.aa (.val (.bool t))))=>bB t (K (a.ev e) m) (K (b.ev e) m)
  |_=>False
 | .alloc z=>n9 m fun n=>K (.rv (.one (.ptr n 0))) (gL m [.var z])
 | .box x=>ok (cellsOf (x.ev e)) fun cs=>n9 m fun n=>K (.rv (.one (.ptr n 0))) (gL m [.var cs])
 | .build z ps=>ok (mF e z ps) fun cs=>K (.rv (.agg cs)) m
 | .l5 esz z len ps=>ok (rx e esz (fC len z) ps) fun rows=>gQ rows fun rows=>n9 m fun n=>K (.rv (.one (.row n esz 0 none))) (gL m [.row esz rows])
 | .load agg n a=>sZ e m agg n (a.ev e) fun v=>K v m
 | .store n a x=>ok (cellsOf (x.ev e)) fun xs=>bB (Nat.beq xs.length n) (match a.ev e with
  | .rv (.one (.ptr id j))=>ok (cR m id) fun bk=>match bk with
   | .var cs=>ok (fG cs j xs) fun ef=>K .undef (aZ m id (.var ef))
   |_=>False
  | .rv (.one (.lC id esz i j))=>ok (cR m id) fun bk=>match bk with
   | .row mG elems=>bB (Nat.beq esz mG) (ok (cR elems i) fun cells=>bB (gS cells) (ok (fG cells j xs) fun eF=>K .undef (aZ m id (.row mG (aZ elems i eF)))) False) False
   |_=>False
  |_=>False) False
 | .bX off a=>match a.ev e with
  | .rv (.one (.ptr id j))=>K (.rv (.one (.ptr id (j+off)))) m
  | .rv (.one (.lC id esz i j))=>K (.rv (.one (.lC id esz i (j+off)))) m
  | .rv (.one (.oR ds))=>K (.rv (.one (.oR (ds.drop off)))) m
  |_=>False
 | .Qx agg off n a=>match a.ev e with
  | .rv (.agg cs)=>ok (gR cs off n) fun l=>ok (HB agg l) fun v=>K v m
  |_=>False
 | .cr esz a i=>match i.ev e with
  | .rv (.one (.aa (.val (.int _ n))))=>match a.ev e with
   | .rv (.one (.aa (.sl mG elems)))=>bB (Nat.beq esz mG) (ok (dg elems n) fun ds=>K (.rv (.one (.oR ds))) m) False
   | .rv (.one (.row id mG lo hi))=>ok (cR m id) fun bk=>match bk with
    | .row u9 elems=>bB (Nat.beq esz mG) (bB (Nat.beq esz u9) (ok (dp n (lenOf elems.length lo hi)) fun k=>K (.rv (.one (.lC id esz (gu lo k) 0))) m) False) False
    |_=>False
   |_=>False
  |_=>False
 | .yS len esz a i=>match i.ev e with
  | .rv (.one (.aa (.val (.int _ n))))=>match a.ev e with
   | .rv (.one (.ptr id j))=>ok (dp n len) fun k=>K (.rv (.one (.ptr id (j+k*esz)))) m
   | .rv (.one (.lC id s i' j))=>ok (dp n len) fun k=>K (.rv (.one (.lC id s i' (j+k*esz)))) m
   | .rv (.one (.oR ds))=>ok (dp n len) fun k=>K (.rv (.one (.oR (ds.drop (k*esz))))) m
   |_=>False
  |_=>False
 | .yT a i=>match i.ev e with
  | .rv (.one (.aa (.val (.int _ n))))=>match a.ev e with
   | .rv (.one (.aa (.val (.string s))))=>ok (dg s.data.toList n) fun b=>K (an .u8 b.toNat) m
   |_=>False
  |_=>False
 | .aH op x y=>match x.ev e with
  | .rv (.one (.aa (.val a)))=>match y.ev e with
   | .rv (.one (.aa (.val b)))=>ok (Fa op a b) fun v=>K (.rv (.one (.aa (.val v)))) m
   |_=>False
  |_=>False
 | .K7 neg n x y=>match x.ev e with
  | .rv (.agg cs)=>match y.ev e with
   | .rv (.agg ds)=>ok (iW n cs ds) fun b=>K (ay (match neg with|true=>!b|false=>b)) m
   |_=>False
  |_=>False
 | .beq neg x y=>match x.ev e with
  | .rv (.one (.aa (.val (.bool a))))=>match y.ev e with
   | .rv (.one (.aa (.val (.bool b))))=>K (ay (match neg with|true=>!(a==b)|false=>a==b)) m
   |_=>False
  |_=>False
 | .un op x=>match x.ev e with
  | .rv (.one (.aa (.val a)))=>ok (TK op a) fun v=>K (.rv (.one (.aa (.val v)))) m
  |_=>False
 | .conv k x=>match x.ev e with
  | .rv (.one (.aa (.val (.int _ n))))=>K (an k (k.wrap n)) m
  |_=>False
 | .Qy x=>match x.ev e with
  | .rv (.one (.aa (.val (.string s))))=>K (dh s) m
  |_=>False
 | .fn f dJ=>ok (sX (DN e dJ)) fun iN=>K (.rv (.one (.fn f iN))) m
 | .len 1 x=>match x.ev e with
  | .rv (.one (.aa (.sl _ elems)))=>K (an .i64 (elems.length:Int)) m
  | .rv (.one (.row id _ lo hi))=>ok (cR m id) fun bk=>match bk with
   | .row _ elems=>K (an .i64 (lenOf elems.length lo hi:Int)) m
   |_=>False
  | .rv (.one .aB)=>K (an .i64 0) m
  |_=>False
 | .len 0 x=>match x.ev e with
  | .rv (.one (.aa (.val (.string s))))=>K (an .i64 (s.size:Int)) m
  |_=>False
 | .len 2 x=>match x.ev e with
  | .rv (.one (.map id))=>ok (cR m id) fun bk=>match bk with
   | .mp es=>K (an .i64 (es.length:Int)) m
   |_=>False
  |_=>False
 | .call f args=>match f.ev e with
  | .rv (.one (.fn f dJ))=>aq P f (gL (DN e args) (sG dJ)) m K
  |_=>False
 | .ext x i=>match x.ev e with
  | .bF rs=>ok (cR rs i) fun r=>K (.rv r) m
  |_=>False
 | .mE esz bytes dst src=>bB (s7 (dst.ev e)&&DO (dst.ev e) (src.ev e)) (ok (eK m esz (dst.ev e)) fun E1=>ok (eK m esz (src.ev e)) fun E2=>
   (E1.length+E2.length)*bytes<=140737488355328/\n9 m fun n=>K (.rv (.one (.row n esz 0 none))) (gL (gM (gM m (dst.ev e)) (src.ev e)) [.row esz (E1++E2)]))
   (match dst.ev e with
   | .rv (.one (.row id e1 lo (some h)))=>ok (cR m id) fun bk=>match bk with
    | .row e2 rows=>ok (eK m esz (src.ev e)) fun E2=>bB (Nat.beq lo 0&&(Nat.beq e1 esz&&(Nat.beq e2 esz&&(Nat.ble 1 rows.length&&(Nat.ble (h+E2.length) rows.length&&eN E2)))))
     (rows.length*bytes<=140737488355328/\K (.rv (.one (.row id esz 0 (some (h+E2.length))))) (aZ m id (.row esz (cF rows h E2)))) False
    |_=>False
   |_=>False)
 | .u5 neg x=>match x.ev e with
  | .rv (.one (.aa (.sl _ elems)))=>bB (Nat.beq elems.length 0) (K (ay true) m/\K (ay false) m) (K (ay neg) m)
  | .rv (.one (.row id _ lo hi))=>ok (cR m id) fun bk=>match bk with
   | .row _ elems=>bB (Nat.beq (lenOf elems.length lo hi) 0) (K (ay true) m/\K (ay false) m) (K (ay neg) m)
   |_=>False
  | .rv (.one .aB)=>K (ay true) m/\K (ay false) m
  |_=>False
 | .mD esz x lo hi (some mx)=>bB (lo.isNone&&Bn e hi&&TL (mx.ev e)&&HD (x.ev e)) (K (.rv (.one .aB)) m)
   (ok (jr e lo 0) fun l=>ok (eK m esz (x.ev e)) fun E=>ok (jr e hi E.length) fun h=>ok (nC (mx.ev e)) fun QA=>bB (lo.isSome&&(hi.isSome&&(Nat.ble l h&&(Nat.ble h QA&&Nat.ble QA E.length)))) (K .ar m) False)
 | .mD esz x lo hi none=>ok (jr e lo 0) fun l=>match x.ev e with
  | .rv (.one (.aa (.sl e2 elems)))=>bB (Nat.beq e2 esz) (ok (jr e hi elems.length) fun h=>bB (Nat.ble l h&&Nat.ble h elems.length) (K (.rv (.one (.aa (.sl esz ((elems.take h).drop l))))) m) False) False
  | .rv (.one (.row id e2 Bo sH))=>ok (cR m id) fun bk=>match bk with
   | .row _ elems=>bB (Nat.beq e2 esz) (ok (jr e hi (lenOf elems.length Bo sH)) fun h=>bB (Nat.ble l h&&Nat.ble h (elems.length-Bo)) (K (.rv (.one (.row id esz (gu Bo l) (some (gu Bo h))))) m) False) False
   |_=>False
  |_=>False
 | .Bl x lo hi=>match x.ev e with
  | .rv (.one (.aa (.val (.string s))))=>ok (jr e lo 0) fun l=>ok (jr e hi s.size) fun h=>bB (Nat.ble l h&&Nat.ble h s.size) (K (dh (s.extract l h)) m) False
  |_=>False
 | .aT x=>match x.ev e with
  | .rv (.one (.ptr id j))=>K (.rv (.one (.ptr id j))) m
  | .rv (.one (.lC id s i j))=>K (.rv (.one (.lC id s i j))) m
  | .rv (.one (.oR ds))=>K (.rv (.one (.oR ds))) m
  |_=>False
 | .Oc x=>ok (eK m 1 (x.ev e)) fun E=>ok (nK E) fun xs=>K (dh (strOfNums xs)) m
 | .Oa x=>match x.ev e with
  | .rv (.one (.aa (.val (.string s))))=>s.size<=140737488355328/\n9 m fun n=>K (.rv (.one (.row n 1 0 none))) (gL m [.row 1 (js s)])
  |_=>False
 | .hC mx [x,y]=>match x.ev e with
  | .rv (.one (.aa (.val (.int k a))))=>match y.ev e with
   | .rv (.one (.aa (.val (.int _ b))))=>match mx with
    |true=>K (an k (if b>a then b else a)) m
    |false=>K (an k (if b<a then b else a)) m
   |_=>False
  |_=>False
 | .TH x=>match x.ev e with
  | .rv (.one (.row id e1 lo hi))=>ok (cR m id) fun bk=>match bk with
   | .row esz rows=>bB (Nat.beq esz 1&&Nat.blt lo rows.length) (K (.rv (.one (.row id e1 lo hi))) m) False
   |_=>False
  |_=>False
 | .P5 esz z x=>match x.ev e with
  | .rv (.one (.row id e1 lo hi))=>ok (cR m id) fun bk=>match bk with
   | .row e2 rows=>bB (Nat.beq e1 esz&&(Nat.beq e2 esz&&Nat.ble (oc hi rows.length) rows.length))
     (bB (Nat.blt lo (oc hi rows.length)) (K (.bF []) (aZ m id (.row esz (cF rows lo (fC (oc hi rows.length-lo) z))))) (K (.bF []) m)) False
   |_=>False
  | .rv (.one .aB)=>K (.bF []) m
  |_=>False
 | .copy esz d s=>ok (eK m esz (s.ev e)) fun E=>bB (Nat.beq E.length 0) (bB (HD (d.ev e)) (K (an .i64 0) m) False)
   (match d.ev e with
   | .rv (.one (.row id e1 lo hi))=>ok (cR m id) fun bk=>match bk with
    | .row e2 rows=>bB (Nat.beq e1 esz&&(Nat.beq e2 esz&&(Nat.ble (oc hi rows.length) rows.length&&(Nat.ble (lo+E.length) (oc hi rows.length)&&eN E)))) (K (an .i64 (E.length:Int)) (aZ m id (.row esz (cF rows lo E)))) False
    |_=>False
   |_=>False)
 | .Hy agg n sz x i=>match i.ev e with
  | .rv (.one (.aa (.val (.int _ j))))=>match x.ev e with
   | .rv (.agg cs)=>ok (dp j n) fun k=>ok (gR cs (k*sz) sz) fun l=>ok (HB agg l) fun v=>K v m
   |_=>False
  |_=>False
 | .TI x=>match x.ev e with
  | .rv (.one (.map id))=>ok (cR m id) fun bk=>match bk with
   | .mp es=>ok (oU es) fun l=>n9 m fun n=>K (.rv (.one (.ptr n 0))) (gL (aZ m id .aO) [.it [] l])
   |_=>False
  |_=>False
 | .ru x=>match x.ev e with
  | .rv (.one (.ptr id 0))=>ok (cR m id) fun bk=>match bk with
   | .it _ left=>(left=[]->K (.bF [.one (.aa (.val (.bool false)))]) m)/\∀(i:Nat)(k v:Value)(M2:List (Value×Value)),left[i]? =some (k,v)->M2=left.eraseIdx i->K (.bF [.one (.aa (.val (.bool true))),.one (.aa (.val k)),.one (.aa (.val v))]) (aZ m id (.it [(k,v)] M2))
   |_=>False
  |_=>False
 | .TJ x=>match x.ev e with
  | .rv (.one (.ptr id 0))=>ok (cR m id) fun bk=>match bk with
   | .it (p::_) _=>K (.bF [.one (.aa (.val p.1)),.one (.aa (.val p.2))]) m
   |_=>False
  |_=>False
 | .sV=>n9 m fun n=>K (.rv (.one (.map n))) (gL m [.mp []])
 | .nl esz bytes z nx cx=>ok (nC (nx.ev e)) fun l=>ok (nC (cx.ev e)) fun c=>bB (Nat.beq l c) (c*bytes<=140737488355328/\n9 m fun n=>K (.rv (.one (.row n esz 0 none))) (gL m [.row esz (fC l z)])) False
 | .E9 z kk mx kx okF=>match kx.ev e with
  | .rv (.one (.aa (.val kv)))=>bB (u7 kk kv) (ok (HE m (mx.ev e)) fun es=>ok (yV kv es) fun o=>K (Qz okF z o) m) False
  |_=>False
 | .wY kk mx kx vx=>match mx.ev e with
  | .rv (.one (.map id))=>match kx.ev e with
   | .rv (.one (.aa (.val kv)))=>bB (u7 kk kv) (ok (cR m id) fun bk=>match bk with
    | .mp es=>ok (Bm (vx.ev e)) fun v=>ok (HC kv v es) fun cH=>K .undef (aZ m id (.mp cH))
    |_=>False) False
   |_=>False
  |_=>False
 |_=>False
def s8:Value->Option CC
 | .slice none 0 0=>some .aB
 |v=>match cG v with|true=>some (.aa (.val v))|false=>none
def bh:Operand->Option X
 | .tmp t=>some (.t t)
 | .const v=>(s8 v).map fun c=>.c (.rv (.one c))
 | .func f=>some (.c (.rv (.one (.fn f []))))
 | .global _=>none
def ry:List Operand->Option (List X)
 | []=>some []
 |x::r=>do some ((<-bh x)::(<-ry r))
def gi:Option Operand->Option (Option X)
 |none=>some none
 |some x=>do some (some (<-bh x))
def d6(P:Program)(t:TypeId):Option Nat:=(P.info? t).map (·.size)
def dO(P:Program)(t:TypeId):Option Bool:=(P.underlying t).map fun| .struct _| .array _ _=>true|_=>false
def kU:List Value->Option (List CC)
 | []=>some []
 |v::r=>do some ((<-s8 v)::(<-kU r))
def dB(P:Program)(t:TypeId):Option (List CC):=do kU (<-(<-P.info? t).zero).cells.toList
def kV(P:Program)(fs:Array Field):List (Nat×Operand)->Option (List (Nat×Nat×X))
 | []=>some []
 |(i,x)::r=>do
  let f<-fs[i]?
  some ((f.offset,<-d6 P f.type,<-bh x)::(<-kV P fs r))
def jk(sz:Nat):List (Nat×Operand)->Option (List (Nat×Nat×X))
 | []=>some []
 |(i,x)::r=>do some ((i*sz,sz,<-bh x)::(<-jk sz r))
def jl:List (Nat×Operand)->Option (List (Nat×X))
 | []=>some []
 |(i,x)::r=>do some ((i,<-bh x)::(<-jl r))
def yW(g:TypeId->Option (List Kd)):List Field->Nat->Option (List Kd)
 | [],_=>some []
 |f::r,off=>if f.name≠ "_" /\f.offset=off then
   match g f.type with
   |some ks=>match yW g r (off+ks.length)with
    |some ls=>some (ks++ls)
    |none=>none
   |none=>none
  else none
def flatK(P:Program):Nat->TypeId->Option (List Kd)
 |0,_=>none
 |d+1,t=>match P.underlying t with
  |some .bool=>if d6 P t=some 1 then some [.b]else none
  |some (.int _)=>if d6 P t=some 1 then some [.i]else none
  |some .string=>if d6 P t=some 1 then some [.s]else none
  |some (.struct fs)=>if P.stoodInHeld t=false then
    match yW (flatK P d) fs.toList 0 with
    |some ks=>if d6 P t=some ks.length then some ks else none
    |none=>none
   else none
  |_=>none
def Fb(P:Program)(t:TypeId):Option Ky:=
 match P.underlying t with
 |some (.int k)=>some (.i k)
 |some .string=>some .s
 |some .bool=>some .b
 |_=>none
def DP(P:Program)(t:TypeId):Option RV:=do
 match (<-(<-P.info? t).zero)with
 | .agg cs=>do some (.agg (<-kU cs.toList))
 |v=>do some (.one (<-s8 v))
def s9(P:Program)(o:Oper):Option I:=
 match o.op with
 | .move x| .assign x=>do some (.aF (<-bh x))
 | .pick c a b=>do some (.pick (<-bh c) (<-bh a) (<-bh b))
 | .alloc t=>do some (.alloc (<-dB P t))
 | .box _ x=>do some (.box (<-bh x))
 | .build t ps=>do
  let z<-dB P t
  match P.underlying t with
  |some (.struct fs)=>if(fs.toList.mapM (fun f=>(P.info? f.type).map fun i=>(f.offset,i.size))).isSome then some (.build z (<-kV P fs ps.toList))else none
  |some (.array _ e)=>some (.build z (<-jk (<-d6 P e) ps.toList))
  |_=>none
 | .buildSlice t n ps=>do
  match P.underlying t with
  |some (.slice e)=>
   let z<-dB P e
   if(<-d6 P e)=z.length/\0<z.length/\n*z.length<=2^24 then some (.l5 z.length z n (<-jl ps.toList))else none
  |_=>none
 | .load t a=>do some (.load (<-dO P t) (<-d6 P t) (<-bh a))
 | .store t a x=>do
  let n<-d6 P t
  if n=0 then none else some (.store n (<-bh a) (<-bh x))
 | .fieldAddr t a k=>do
  match P.underlying t with
  |some (.struct fs)=>
   let f<-fs[k]?
   if(<-d6 P f.type)=0 then none else some (.bX f.offset (<-bh a))
  |_=>none
 | .field t a k=>do
  match P.underlying t with
  |some (.struct fs)=>
   let f<-fs[k]?
   some (.Qx (<-dO P f.type) f.offset (<-d6 P f.type) (<-bh a))
  |_=>none
 | .indexAddr t a i=>do
  match P.underlying t with
  |some (.slice e)=>some (.cr (<-d6 P e) (<-bh a) (<-bh i))
  |some (.array n e)=>some (.yS n (<-d6 P e) (<-bh a) (<-bh i))
  |_=>none
 | .index t a i=>do
  match P.underlying t with
  |some .string=>some (.yT (<-bh a) (<-bh i))
  |some (.array n e)=>some (.Hy (<-dO P e) n (<-d6 P e) (<-bh a) (<-bh i))
  |_=>none
 | .binOp op t x y _=>do
  match P.underlying t with
  |some (.int _)|some .string=>some (.aH op (<-bh x) (<-bh y))
  |some (.slice _)=>match y,op with
   | .const (.slice none 0 0),.eql=>some (.u5 false (<-bh x))
   | .const (.slice none 0 0),.neq=>some (.u5 true (<-bh x))
   |_,_=>none
  |some .bool=>match op with
   | .eql=>some (.beq false (<-bh x) (<-bh y))
   | .neq=>some (.beq true (<-bh x) (<-bh y))
   |_=>none
  |some (.array n e)=>match P.eqGuardType P.depth t,P.underlying e,d6 P e,op with
   |false,some (.int _),some 1,.eql=>some (.K7 false (fC n .i) (<-bh x) (<-bh y))
   |false,some (.int _),some 1,.neq=>some (.K7 true (fC n .i) (<-bh x) (<-bh y))
   |_,_,_,_=>none
  |some (.struct _)=>match P.eqGuardType P.depth t,flatK P 5 t,op with
   |false,some ks,.eql=>some (.K7 false ks (<-bh x) (<-bh y))
   |false,some ks,.neq=>some (.K7 true ks (<-bh x) (<-bh y))
   |_,_,_=>none
  |_=>none
 | .unOp op _ x=>do some (.un op (<-bh x))
 | .convert s d x=>do
  match P.underlying s,P.underlying d with
  |some (.int _),some (.int k)=>some (.conv k (<-bh x))
  |some .string,some .string=>some (.Qy (<-bh x))
  |some (.slice e),some .string=>match P.underlying e with
   |some (.int .u8)=>some (.Oc (<-bh x))
   |_=>none
  |some .string,some (.slice e)=>match P.underlying e with
   |some (.int .u8)=>some (.Oa (<-bh x))
   |_=>none
  |some (.slice _),some (.slice e)=>match s==d,P.underlying e with
   |true,some (.int .u8)=>some (.TH (<-bh x))
   |_,_=>none
  |_,_=>none
 | .makeMap t r=>match r,P.underlying t with
  |none,_=>some .sV
  |some (.const (.int _ _)),some (.map _ _)=>some .sV
  |_,_=>none
 | .makeSlice t l c=>do
  match P.underlying t with
  |some (.slice e)=>
   let i<-P.info? e;let z<-dB P e
   if i.size=z.length/\0<z.length/\0<i.bytes then some (.nl i.size i.bytes z (<-bh l) (<-bh c))else none
  |_=>none
 | .lookup t x k b=>do
  match P.underlying t with
  |some (.map kt vt)=>some (.E9 (<-DP P vt) (<-Fb P kt) (<-bh x) (<-bh k) b)
  |_=>none
 | .mapUpdate t x k v| .insert t x k v=>do
  match P.underlying t with
  |some (.map kt _)=>some (.wY (<-Fb P kt) (<-bh x) (<-bh k) (<-bh v))
  |_=>none
 | .makeFunc (.func f) fst dJ=>if fst.size=0 then do some (.fn f (<-ry dJ.toList))else none
 | .extract x i=>do some (.ext (<-bh x) i)
 | .nilCheck x=>do some (.aT (<-bh x))
 | .range t x=>match P.underlying t with
  |some (.map _ _)=>do some (.TI (<-bh x))
  |_=>none
 | .next it false=>do some (.ru (<-bh it))
 | .entry it=>do some (.TJ (<-bh it))
 | .slice t x lo hi mx=>do
  match P.underlying t with
  |some (.slice e)=>some (.mD (<-d6 P e) (<-bh x) (<-gi lo) (<-gi hi) (<-gi mx))
  |some .string=>match mx with
   |none=>some (.Bl (<-bh x) (<-gi lo) (<-gi hi))
   |some _=>none
  |_=>none
 | .call {callee:= .builtin .len,args,argTypes}=>do
  match args.toList,argTypes.toList with
  | [x],[t]=>match P.underlying t with
   |some .string=>some (.len 0 (<-bh x))
   |some (.slice _)=>some (.len 1 (<-bh x))
   |some (.map _ _)=>some (.len 2 (<-bh x))
   |_=>none
  |_,_=>none
 | .call {callee:= .builtin .append,args,argTypes}=>do
  match args.toList,argTypes.toList with
  | [x,y],[t,t2]=>match P.underlying t,P.underlying t2 with
   |some (.slice e),some (.slice e2)=>
    let i<-P.info? e;let z<-dB P e
    if i.size=z.length/\0<z.length/\0<i.bytes then some (.mE i.size i.bytes (<-bh x) (<-bh y))else none
   |_,_=>none
  |_,_=>none
 | .call {callee:= .builtin .max,args,..}=>do
  match args.toList with
  | [x,y]=>some (.hC true [<-bh x,<-bh y])
  |_=>none
 | .call {callee:= .builtin .min,args,..}=>do
  match args.toList with
  | [x,y]=>some (.hC false [<-bh x,<-bh y])
  |_=>none
 | .call {callee:= .builtin .clear,args,argTypes}=>do
  match args.toList,argTypes.toList with
  | [x],[t]=>match P.underlying t with
   |some (.slice e)=>
    let i<-P.info? e;let z<-dB P e
    if i.size=z.length then some (.P5 i.size z (<-bh x))else none
   |_=>none
  |_,_=>none
 | .call {callee:= .builtin .copy,args,argTypes}=>do
  match args.toList,argTypes.toList with
  | [x,y],[t,_]=>match P.underlying t with
   |some (.slice e)=>
    let i<-P.info? e;let z<-dB P e
    if i.size=z.length then some (.copy i.size (<-bh x) (<-bh y))else none
   |_=>none
  |_,_=>none
 | .call {callee:= .value f,args,..}=>do some (.call (<-bh f) (<-ry args.toList))
 |_=>none
def HF:I:= .hC true []
def p5(P:Program)(o:Oper):Option I:=
 match s9 P o with
 |some i=>some i
 |none=>match o.op with
  | .defer _=>none
  |_=>some HF
theorem K9(P:Program){e:List CV}{m:Mem}{K:CV->Mem->Prop}:step P HF e m K=False:=rfl
theorem Bp{P:Program}{o:Oper}{i:I}(h:p5 P o=some i):s9 P o=some i\/i=HF:=by
 unfold p5 at h;split at h
 .rename_i j hj;exact .inl (by rw[hj];exact h)
 .split at h
  .cases h
  .cases h;exact .inr rfl
def HG(ops:Array Oper):Option (Nat×Bool)->Option (Option (Nat×Bool))
 |none=>some none
 |some (j,b)=>do some (some (<-(<-ops[j]?).dst,b))
def ta(P:Program)(ops:Array Oper)(o:Oper):Option LO:=do some ⟨o.dst,<-p5 P o,<-HG ops o.guard⟩
def kW(P:Program)(ops:Array Oper):List Oper->Option (List LO)
 | []=>some []
 |o::r=>do some ((<-ta P ops o)::(<-kW P ops r))
def I.xs:I->List X
 | .aF x=>[x]
 | .pick c a b=>[c,a,b]
 | .alloc _=>[]
 | .box x=>[x]
 | .build _ ps=>ps.map fun p=>p.2.2
 | .l5 _ _ _ ps=>ps.map fun p=>p.2
 | .load _ _ a=>[a]
 | .store _ a x=>[a,x]
 | .bX _ a=>[a]
 | .Qx _ _ _ a=>[a]
 | .cr _ a i=>[a,i]
 | .yS _ _ a i=>[a,i]
 | .yT a i=>[a,i]
 | .aH _ x y=>[x,y]
 | .K7 _ _ x y=>[x,y]
 | .beq _ x y=>[x,y]
 | .un _ x=>[x]
 | .conv _ x=>[x]
 | .Qy x=>[x]
 | .Oa x=>[x]
 | .Oc x=>[x]
 | .mD _ x lo hi mx=>x::(lo.toList++hi.toList++mx.toList)
 | .Bl x lo hi=>x::(lo.toList++hi.toList)
 | .fn _ dJ=>dJ
 | .len _ x=>[x]
 | .mE _ _ d s=>[d,s]
 | .call f args=>f::args
 | .ext x _=>[x]
 | .aT x=>[x]
 | .u5 _ x=>[x]
 | .sV=>[]
 | .nl _ _ _ n c=>[n,c]
 | .E9 _ _ m k _=>[m,k]
 | .wY _ m k v=>[m,k,v]
 | .hC _ xs=>xs
 | .Uw m k=>[m,k]
 | .copy _ d s=>[d,s]
 | .P5 _ _ x=>[x]
 | .Hy _ _ _ x i=>[x,i]
 | .TH x=>[x]
 | .TI x=>[x]
 | .ru x=>[x]
 | .TJ x=>[x]
def jX:List X->List Nat
 | []=>[]
 | .t n::r=>n::jX r
 | .c _::r=>jX r
def LO.looks(lo:LO):List Nat:=
 match lo.guard with
 |none=>jX lo.yG.xs
 |some (s,_)=>s::jX lo.yG.xs
def vC:I->Bool
 | .aF _| .pick .. | .build .. | .bX .. | .Qx .. | .Hy .. | .yS .. | .yT .. | .aH .. | .K7 .. | .beq .. | .un .. | .conv .. | .Qy .. | .fn .. | .ext .. | .aT _| .Bl .. =>true
 |_=>false
def p6(i:I):Bool:=vC i||match i with| .load .. | .cr .. | .len .. | .mD .. =>true|_=>false
def wZ(d7:List Nat)(l:List Nat):Nat:=l.foldr (fun j m=>Nat.lor m (Nat.lor (Nat.shiftLeft 1 j) ((cR d7 j).getD 0))) 0
def Bq(fP:List (List Nat))(d7:List Nat):List Nat:=fP.map (wZ d7)
def w8(fP:List (List Nat)):Nat->List Nat->List Nat
 |0,d7=>d7
 |k+1,d7=>let a:=Bq fP d7;match a==d7 with|true=>d7|false=>w8 fP k a
def bn(n:Nat)(fP:List (List Nat)):List Nat:=w8 fP n []
def lD(ms:List Nat)(i j:Nat):Bool:=Nat.testBit ((cR ms i).getD 0) j
def cS(bO:List LO)(t j:Nat):Bool:=match cR bO j with|some lo=>(match lo.dst with|some d=>Nat.beq d t|none=>false)|none=>false
def mH(bO:List LO)(j:Nat):List Nat:=match cR bO j with|some lo=>lo.looks|none=>[]
def Fc(bO:List LO)(j:Nat):Option Nat:=match cR bO j with|some lo=>lo.dst|none=>none
def Br(bO:List LO)(j:Nat):Bool:=match cR bO j with|some lo=>vC lo.yG|none=>false
def jY(bO:List LO)(j:Nat):Bool:=match cR bO j with|some lo=>p6 lo.yG|none=>false
def l6.hd:l6->List Nat
 | .nil=>[]
 | .cons i _ _=>[i]
 | .yU a b=>a.hd++b.hd
def DQ(bO:List LO)(ms:List Nat)(n:Nat)(bf:List Nat)(i:Nat):Bool:=
 Nat.blt i n&& !(bf.contains i)&&
  ((mH bO i).all fun t=>bf.all fun j=>!(cS bO t j)||lD ms i j)&&
  (match Fc bO i with|none=>true|some t=>bf.all fun j=>!(cS bO t j)&&(!((mH bO j).contains t)||lD ms i j))
def Od(ms:List Nat)(n:Nat)(bf hd:List Nat):Bool:=(List.range n).all fun i=>bf.contains i||(hd.contains i||hd.any fun f=>lD ms i f)
def dA(bO:List LO)(ms:List Nat)(n:Nat):Bool->List Nat->l6->Bool
 |c,bf,.nil=>c&&(List.range n).all fun i=>bf.contains i
 |c,bf,.cons i none r=>c&&(DQ bO ms n bf i&&(jY bO i&&dA bO ms n true (i::bf) r))
 |c,bf,.cons i (some l) r=>(!c||Od ms n bf [i])&&(DQ bO ms n bf i&&((bf.all fun j=>!(jY bO j)||(lD ms i j||(Br bO j||l.contains j)))&&dA bO ms n true (i::bf) r))
 |c,bf,.yU x y=>(!c||Od ms n bf (x.hd++y.hd))&&(dA bO ms n false bf x&&dA bO ms n false bf y)
def vD(fP:List (List Nat))(n:Nat):List Nat->List Nat->Bool
 |bf,[]=>(List.range n).all fun i=>bf.contains i
 |bf,i::r=>Nat.blt i n&&((cR fP i).getD []).all (fun j=>bf.contains j)&&vD fP n (i::bf) r
def QB(fP:List (List Nat))(n:Nat):Nat->List Nat->List Nat
 |0,_=>[]
 |k+1,bf=>match (List.range n).find? fun i=>!(bf.contains i)&&((cR fP i).getD []).all (fun j=>bf.contains j)with
  |some i=>i::QB fP n k (i::bf)
  |none=>[]
def oV(bO:List LO)(fP:List (List Nat))(sched:l6):Bool:=
 vD fP bO.length [] (QB fP bO.length bO.length [])&&dA bO (bn bO.length fP) bO.length true [] sched
def HH(bO:List LO)(ms:List Nat)(yX:List Nat)(done:List Nat)(i:Nat):Bool:=
 !(done.contains i)&&jY bO i&&yX.all fun f=>done.contains f|| !(lD ms i f)
def M3:List Nat->l6->l6
 | [],r=>r
 |i::l,r=>.cons i none (M3 l r)
def QE:List l6->l6
 | []=>.nil
 | [x]=>x
 |x::r=>.yU x (QE r)
def DR(bO:List LO)(ms:List Nat)(all yX:List Nat):Nat->List Nat->l6
 |0,_=>.nil
 |k+1,done=>
  let TM:=all.filter (HH bO ms yX done);let M4:=TM.reverse++done;let left:=yX.filter fun f=>!(done.contains f)
  M3 TM (QE ((left.filter fun f=>left.all fun g=>Nat.beq g f|| !(lD ms f g)).map fun f=>
   .cons f (some (M4.filter fun j=>jY bO j&& !(lD ms f j||Br bO j))) (DR bO ms all yX k (f::M4))))
def DT(bO:List LO)(fP:List (List Nat)):l6:=
 let ms:=bn bO.length fP;let all:=List.range bO.length;let yX:=all.filter fun i=>!(jY bO i)
 DR bO ms all yX (yX.length+1) []
def ju(md:Region.Mode)(ops:Array Oper):List (List Nat):=ops.toList.map fun o=>(o.after.toList.filter (Region.binds md)).map (·.on)
def sI(P:Program)(ops:Array Oper):List Region.Mode:=if(P.follows .mixedOrders|| !(Region.departs ops))=true then [.any]else [.text,.gc]
def tc(P:Program)(bO:List LO)(ops:Array Oper):Option (List l6):=
 let ms:=sI P ops;let s:=DT bO (ju .any ops)
 if(ms.all fun md=>oV bO (ju md ops) s)=true then some [s]
 else
  let ss:=ms.map fun md=>DT bO (ju md ops)
  if(ms.all fun md=>ss.any fun s=>oV bO (ju md ops) s)=true then some ss else none
def dx(P:Program):Code->Option LC
 | .skip=>some .skip
 | .region _ ops true=>do
  let bO<-kW P ops ops.toList
  some (.bU bO (<-tc P bO ops))
 | .region _ ops false=>do some (.ai (<-kW P ops ops.toList))
 | .seq a b=>do some (.seq (<-dx P a) (<-dx P b))
 | .cond x a b=>do some (.cond (<-bh x) (<-dx P a) (<-dx P b))
 | .block id b=>do some (.block id (<-dx P b))
 | .loop b=>do some (.loop (<-dx P b))
 | .exit id=>some (.exit id)
 | .ret=>some .ret
 | .rangeFunc f ps a c=>do
  match ps.toList with
  | [p]=>
   let la<-dx P a;let lc<-dx P c
   if(la.oT&&lc.oT)=true then some (.u6 (<-bh f) p la lc)else none
  |_=>none
 |_=>none
def mI(P:Program):List ResultVar->Option (List Rv)
 | []=>some []
 | .tmp t::r=>do some (.tmp t::(<-mI P r))
 | .cell a t::r=>do some (.cell (<-dO P t) (<-d6 P t) a::(<-mI P r))
def bs(P:Program)(fn:Func):Option LF:=do
 some ⟨fn.ntmps,<-mI P fn.results.toList,<-dx P (<-fn.body)⟩
inductive Ex where
 |normal
 |exit (id:Nat)
 |ret
def put(d:Option Nat)(v:CV)(e:List CV)(K:List CV->Prop):Prop:=
 match d with
 |none=>K e
 |some d=>fV v fun v=>gQ (aZ e d v) K
def DU(P:Program)(o:LO)(ih:(List CV->Mem->Prop)->List CV->Mem->Prop)(K:List CV->Mem->Prop)(e:List CV)(m:Mem):Prop:=
  match o.guard with
  |none=>step P o.yG e m fun v m'=>gQ m' fun m'=>put o.dst v e fun e'=>ih K e' m'
  |some (s,iF)=>
   match iV e s with
   | .undef=>put o.dst .undef e fun e'=>ih K e' m
   | .rv (.one (.aa (.val (.bool t))))=>bB t
    (gQ (aZ e s (ay true)) fun e=>match iF with
     |true=>step P o.yG e m fun v m'=>gQ m' fun m'=>put o.dst v e fun e'=>ih K e' m'
     |false=>put o.dst .undef e fun e'=>ih K e' m)
    (gQ (aZ e s (ay false)) fun e=>match iF with
     |false=>step P o.yG e m fun v m'=>gQ m' fun m'=>put o.dst v e fun e'=>ih K e' m'
     |true=>put o.dst .undef e fun e'=>ih K e' m)
   |_=>False
def Fd(P:Program)(l:List LO):(List CV->Mem->Prop)->List CV->Mem->Prop:=
 @List.rec LO (fun _=>(List CV->Mem->Prop)->List CV->Mem->Prop) (fun K e m=>K e m) (fun o _ ih K e m=>DU P o ih K e m) l
theorem vE{P:Program}{o:LO}{r:List LO}{K:List CV->Mem->Prop}{e:List CV}{m:Mem}:Fd P (o::r) K e m=DU P o (Fd P r) K e m:=rfl
def l7(P:Program)(lo:LO)(e:List CV)(m:Mem)(K:List CV->CV->Mem->Prop):Prop:=
 match lo.guard with
 |none=>step P lo.yG e m fun v m'=>gQ m' fun m'=>K e v m'
 |some (s,iF)=>match iV e s with
  | .undef=>K e .undef m
  | .rv (.one (.aa (.val (.bool t))))=>bB t
   (gQ (aZ e s (ay true)) fun e=>match iF with
    |true=>step P lo.yG e m fun v m'=>gQ m' fun m'=>K e v m'
    |false=>K e .undef m)
   (gQ (aZ e s (ay false)) fun e=>match iF with
    |false=>step P lo.yG e m fun v m'=>gQ m' fun m'=>K e v m'
    |true=>K e .undef m)
  |_=>False
def td(j:Nat):List (Nat×LO×List CV×CV)->Option (LO×List CV×CV)
 | []=>none
 |(i,x)::r=>match Nat.beq i j with|true=>some x|false=>td j r
def QF(P:Program)(m:Mem)(dC:List (Nat×LO×List CV×CV))(l:List Nat):Prop:=
 @List.rec Nat (fun _=>Prop) True (fun j _ ih=>(ok (td j dC) fun x=>l7 P x.1 x.2.1 m fun _ v _=>v=x.2.2)/\ih) l
theorem HI{P:Program}{m:Mem}{dC:List (Nat×LO×List CV×CV)}{j:Nat}{r:List Nat}:QF P m dC (j::r)=((ok (td j dC) fun x=>l7 P x.1 x.2.1 m fun _ v _=>v=x.2.2)/\QF P m dC r):=rfl
def DV(P:Program)(bO:List LO)(i:Nat)(HA:Option (List Nat))(ih:List (Nat×LO×List CV×CV)->(List CV->Mem->Prop)->List CV->Mem->Prop)(dC:List (Nat×LO×List CV×CV))(K:List CV->Mem->Prop)(e:List CV)(m:Mem):Prop:=
 ok (cR bO i) fun lo=>l7 P lo e m fun e1 v m'=>put lo.dst v e1 fun e'=>
  match HA with
  |none=>ih ((i,lo,e,v)::dC) K e' m'
  |some l=>QF P m' dC l/\ih dC K e' m'
def te(P:Program)(bO:List LO)(Ux:l6):List (Nat×LO×List CV×CV)->(List CV->Mem->Prop)->List CV->Mem->Prop:=
 @l6.rec (fun _=>List (Nat×LO×List CV×CV)->(List CV->Mem->Prop)->List CV->Mem->Prop) (fun _ K e m=>K e m)
  (fun i HA _ ih dC K e m=>DV P bO i HA ih dC K e m) (fun _ _ Oe Of dC K e m=>Oe dC K e m/\Of dC K e m) Ux
theorem vF{P:Program}{bO:List LO}{i:Nat}{HA:Option (List Nat)}{r:l6}{dC:List (Nat×LO×List CV×CV)}{K:List CV->Mem->Prop}{e:List CV}{m:Mem}:
  te P bO (.cons i HA r) dC K e m=DV P bO i HA (te P bO r) dC K e m:=rfl
theorem HK{P:Program}{bO:List LO}{a b:l6}{dC:List (Nat×LO×List CV×CV)}{K:List CV->Mem->Prop}{e:List CV}{m:Mem}:
  te P bO (.yU a b) dC K e m=(te P bO a dC K e m/\te P bO b dC K e m):=rfl
def Og(x:X)(v:CV)(e:List CV):List CV:=
 match x with
 | .t n=>aZ e n v
 | .c _=>e
def kR:Nat->List (Nat×CV)->List CV
 |n,as=>go n as (fC n .ar)
 where go:Nat->List (Nat×CV)->List CV->List CV
 |_,[],e=>e
 |n,(s,v)::r,e=>aZ (go n r e) s v
inductive kX:Mem->Mem->Prop
 |nil (m:Mem):kX m []
 |cons {b b':Bk} {m m':Mem} (h:b'=b\/b'= .aO) (hm:kX m m'):kX (b::m) (b'::m')
def CC.de(n:Nat):CC->Prop
 | .ptr id _=>id<n
 | .lC id _ _ _=>id<n
 | .row id _ _ _=>id<n
 | .map id=>id<n
 | .fn _ dJ=>∀id,id∈dJ->id<n
 |_=>True
def RV.de(n:Nat):RV->Prop
 | .one c=>c.de n
 | .agg cs=>∀c,c∈cs->c.de n
def CV.de(n:Nat):CV->Prop
 | .rv r=>r.de n
 | .bF rs=>∀r,r∈rs->r.de n
 |_=>True
def Bk.de(n:Nat):Bk->Prop
 | .aO=>True
 | .var cs=>∀c,c∈cs->c.de n
 | .row _ elems=>∀cs,cs∈elems->∀c,c∈cs->c.de n
 | .mp es=>∀e,e∈es->e.val.de n
 | .it _ _=>True
structure HL(n0:Nat)(s s':St):Prop where
 n0:n0<=s'.mem.length
 len:s'.aV.length=s.aV.length
 aV:∀(i:Nat)v,s'.aV[i]? =some v->v= .ar\/(s.aV[i]? =some v/\(s'.mem.length=s.mem.length\/v.de s'.mem.length))
 mem:kX s.mem s'.mem
 iN:s'.mem.length=s.mem.length\/∀b,b∈s'.mem->b.de s'.mem.length
structure Oh(n0:Nat)(ρ:bG)(m:Mem)(ρ':bG)(m':Mem):Prop where
 aP:∀id,id<n0->ρ'.aP (.ap id)=ρ.aP (.ap id)
 S:∀b,ρ.S b->ρ'.S b
 S':∀b,ρ'.S b->ρ.S b\/∃k,Live ρ m k/\(ρ.aP k).b=b
 a7:∀k,Live ρ' m' k->∃k0,Live ρ m k0/\(ρ.aP k0).b=(ρ'.aP k).b
structure View(n0:Nat)(s s':St):Prop where
 hn:n0<=s'.mem.length
 len:s'.aV.length=s.aV.length
 go:∀(ρ:bG)(w:World),aA ρ s.mem w->∃ρ',aA ρ' s'.mem w/\Oh n0 ρ s.mem ρ' s'.mem/\∀(i:Nat)c',s'.aV[i]? =some c'->∃c,s.aV[i]? =some c/\∀v,bV ρ w c v->bV ρ' w c' v
def Oi(f:(Ex->St->Prop)->St->Prop)(K:Ex->St->Prop)(ex:Ex)(s:St):Prop:=
 match ex with
 | .normal=>f K s
 | .exit id=>K (.exit id) s
 | .ret=>K .ret s
def Bs(id:Nat)(K:Ex->St->Prop)(ex:Ex)(s:St):Prop:=
 match ex with
 | .normal=>K .normal s
 | .exit iO=>bB (Nat.beq iO id) (K .normal s) (K (.exit iO) s)
 | .ret=>K .ret s
def DW(n0:Nat){α:Type}(J:α->Prop)(S:α->St)(μ:α->Nat)(n:Nat)(K:Ex->St->Prop)(ex:Ex)(s:St):Prop:=
 match ex with
 | .normal=>∃a,J a/\μ a<n/\View n0 s (S a)
 | .exit id=>K (.exit id) s
 | .ret=>K .ret s
def Fe(K:Ex->St->Prop)(e:List CV)(m:Mem):Prop:=K .normal ⟨e,m⟩
def nL:Mem->List Nat->Mem
 |m,[]=>m
 |m,id::r=>nL (aZ m id .aO) r
def w9(m:Mem):List Nat->List Value->Prop
 | [],[]=>True
 |id::r,v::vs=>(cR m id=some (.var [.aa (.val v)])/\cG v=true)/\w9 m r vs
 |_,_=>False
def oW(as:List (Nat×Nat)):List Value:=as.map fun a=>Value.pointer (some ⟨a.1,a.2,none⟩)
def M5(P:Program)(l:Nat)(args:Array Value)(W:World)(R:Ending->World->Prop):Prop:=
 ∃fn tmps assign body,(Instr.yield l args).run P W= .ok (.round l fn tmps assign body) W/\RoundIn Fence.wide 0 P l fn tmps assign body W R
def QG(P:Program)(gf:Nat)(cs:List Value)(xs:List ByteArray):Prop:=
 (∃fn,P.funcs[gf]? =some fn/\fn.body.isSome=true/\(fn.name== "runtime.NumGoroutine")=false)/\
 ∀(l:Nat)(as:List (Nat×Nat))(W:World)(J:Nat->World->Prop)(Jx:World->Prop),as.length=cs.length->(as.map (·.1)).Nodup->
  (∀(i:Nat)a v,as[i]? =some a->cs[i]? =some v->W.cell? ⟨a.1,a.2,none⟩=some v/\W.frozen? ⟨a.1,a.2,none⟩=false)->
  (∀k W W',J k W->W.heap.size<=W'.heap.size->(∀b,b<W.heap.size->(∀a,a∈as->b≠a.1)->W'.heap[b]? =W.heap[b]?)->W'.os=W.os->W'.tape=W.tape->W'.output=W.output->J k W')->
  (∀W W',Jx W->W.heap.size<=W'.heap.size->(∀b,b<W.heap.size->(∀a,a∈as->b≠a.1)->W'.heap[b]? =W.heap[b]?)->W'.os=W.os->W'.tape=W.tape->W'.output=W.output->Jx W')->
  (∀k y W,xs[k]? =some y->J k W->M5 P l #[.string y] W fun e W'=>
   (e= .returned (.bool true)/\J (k+1) W'/\W.heap.size<=W'.heap.size/\∀a,a∈as->W'.heap[a.1]? =W.heap[a.1]?)\/(e= .returned (.bool false)/\Jx W'))->
  J 0 W->
  CallsIn Fence.wide 0 P gf (#[.func (.yield l) #[] #[]]++(oW as).toArray) W fun e W'=>(∃v,e= .returned v)/\(J xs.length W'\/Jx W')
def Uy(n0:Nat){α:Type}(J:Nat->α->Prop)(S:α->St)(k:Nat)(aV:List CV)(K:Ex->St->Prop)(ex:Ex)(s:St):Prop:=
 match ex with
 | .normal=>∃a,J (k+1) a/\View n0 ⟨aV,s.mem⟩ (S a)
 | .exit id=>K (.exit id) ⟨aV,s.mem⟩
 | .ret=>K .ret ⟨aV,s.mem⟩
def La(P:Program)(bO:List LO)(K:Ex->St->Prop)(s:St):List l6->Prop
 | []=>True
 | [x]=>te P bO x [] (Fe K) s.aV s.mem
 |x::y::r=>te P bO x [] (Fe K) s.aV s.mem/\La P bO K s (y::r)
def aw(P:Program)(n0:Nat):LC->(Ex->St->Prop)->St->Prop
 | .skip,K,s=>K .normal s
 | .ai ops,K,s=>Fd P ops (Fe K) s.aV s.mem
 | .bU bO n8,K,s=>La P bO K s n8
 | .seq a b,K,s=>aw P n0 a (Oi (aw P n0 b) K) s
 | .cond x a b,K,s=>match x.ev s.aV with
  | .rv (.one (.aa (.val (.bool t))))=>bB t
   (gQ (Og x (ay true) s.aV) fun e=>aw P n0 a K ⟨e,s.mem⟩)
   (gQ (Og x (ay false) s.aV) fun e=>aw P n0 b K ⟨e,s.mem⟩)
  |_=>False
 | .block id b,K,s=>aw P n0 b (Bs id K) s
 | .loop b,K,s=>∃(α:Type)(J:α->Prop)(S:α->St)(μ:α->Nat),(∃a,J a/\View n0 s (S a))/\∀a,J a->aw P n0 b (DW n0 J S μ (μ a) K) (S a)
 | .exit id,K,s=>K (.exit id) s
 | .ret,K,s=>K .ret s
 | .cI a,K,s=>∃s',View n0 s s'/\aw P n0 a K s'
 | .u6 x p la lb,K,s=>∃(gf:Nat)(iN:List Nat)(cs:List Value)(xs:List ByteArray)(α:Type)(J:Nat->α->Prop)(S:α->St),
   x.ev s.aV= .rv (.one (.fn gf iN))/\w9 s.mem iN cs/\(iN.Nodup/\iN≠[])/\QG P gf cs xs/\(∃a,J 0 a/\View n0 ⟨s.aV,nL s.mem iN⟩ (S a))/\
   (∀k y a,xs[k]? =some y->J k a->n9 (S a).mem fun n1=>aw P n1 la (fun ex s2=>match ex with
    | .normal=>n9 s2.mem fun n2=>aw P n2 lb (Uy n0 J S k (S a).aV K) s2
    |_=>False) ⟨aZ (S a).aV p (dh y),(S a).mem⟩)/\
   ∀a,J xs.length a->K .normal (S a)
def yY(P:Program)(s:St):List Rv->(List RV->Prop)->Prop
 | [],K=>K []
 | .tmp t::r,K=>ok (Bm (iV s.aV t)) fun v=>yY P s r fun vs=>K (v::vs)
 | .cell agg n t::r,K=>sZ s.aV s.mem agg n (iV s.aV t) fun v=>ok (Bm v) fun v=>yY P s r fun vs=>K (v::vs)
def Oj:List RV->CV
 | [r]=>.rv r
 |rs=>.bF rs
def mJ(P:Program)(jW:List Rv)(K:CV->Mem->Prop)(ex:Ex)(s:St):Prop:=
 match ex with
 | .exit _=>False
 |_=>yY P s jW fun vs=>K (Oj vs) s.mem
def body(P:Program)(lf:LF)(args:List CV)(m:Mem)(K:CV->Mem->Prop):Prop:=
 gQ (gL args (fC (lf.n-args.length) .undef)) fun e=>n9 m fun n0=>aw P n0 lf.code (mJ P lf.jW K) ⟨e,m⟩
abbrev qm(d s:Nat):LO:=⟨some d,.aF (.t s),none⟩
abbrev qu(d:Nat)(i:I):LO:=⟨some d,i,none⟩
abbrev qw(i:I):LO:=⟨none,i,none⟩
abbrev qg(d:Nat)(i:I)(s:Nat)(b:Bool):LO:=⟨some d,i,some (s,b)⟩
abbrev qf(d k s:Nat):LO:=⟨some d,.bX k (.t s),none⟩
abbrev ql(d s:Nat):LO:=⟨some d,.load false 1 (.t s),none⟩
abbrev qL(d n s:Nat):LO:=⟨some d,.load true n (.t s),none⟩
abbrev qi(n:Int):X:= .c (.rv (.one (.aa (.val (.int .i64 n)))))
abbrev qb(b:Bool):X:= .c (.rv (.one (.aa (.val (.bool b)))))
abbrev qe:X:= .c (.rv (.one .aB))
abbrev qd(n:Int):CC:= .aa (.val (.int .i64 n))
abbrev qc(f:Nat)(a:List X):I:= .call (.c (.rv (.one (.fn f [])))) a
instance(n:Nat):OfNat X n:=⟨.t n⟩
end Go.AM
