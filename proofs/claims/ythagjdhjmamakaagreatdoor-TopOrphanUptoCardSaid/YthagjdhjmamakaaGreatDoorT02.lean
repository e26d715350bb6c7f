/- Part 2 of 41: what the law stands on. -/
import Derived.Test.YthagjdhjmamakaaGreatDoorT01
import Derived.Laws.BytesArg
import Derived.RangeFuncLeaves
import Derived.RangeFuncRecord
set_option linter.unusedVariables false
set_option linter.unusedSimpArgs false
set_option linter.unnecessarySimpa false
set_option maxRecDepth 100000
set_option maxHeartbeats 64000000
namespace Go.AM
inductive X where
 |t (n:Nat)
 |c (v:CV)
inductive Kd where
 |b
 |i
 |s
inductive Ky where
 |i (k:IntKind)
 |s
 |b
inductive I where
 |aD (x:X)
 |pick (c a b:X)
 |alloc (z:List CC)
 |box (x:X)
 |build (z:List CC) (parts:List (Nat×Nat×X))
 |lu (esz:Nat) (z:List CC) (len:Nat) (parts:List (Nat×X))
 |load (agg:Bool) (n:Nat) (a:X)
 |store (n:Nat) (a x:X)
 |bQ (off:Nat) (a:X)
 |RZ (agg:Bool) (off n:Nat) (a:X)
 |b7 (esz:Nat) (a i:X)
 |tP (len esz:Nat) (a i:X)
 |zR (a i:X)
 |aE (op:BinOp) (x y:X)
 |Mv (neg:Bool) (ks:List Kd) (x y:X)
 |beq (neg:Bool) (x y:X)
 |un (op:UnOp) (x:X)
 |conv (k:IntKind) (x:X)
 |R0 (x:X)
 |Rw (x:X)
 |Mf (x:X)
 |m6 (esz:Nat) (x:X) (lo hi mx:Option X)
 |xZ (x:X) (lo hi:Option X)
 |fn (f:Nat) (dN:List X)
 |len (k:Nat) (x:X)
 |mY (esz bytes:Nat) (dst src:X)
 |call (f:X) (args:List X)
 |ext (x:X) (i:Nat)
 |aR (x:X)
 |v6 (neg:Bool) (x:X)
 |tQ
 |nR (esz bytes:Nat) (z:List CC) (n c:X)
 |Gt (z:RV) (kk:Ky) (m k:X) (ok:Bool)
 |x4 (kk:Ky) (m k v:X)
 |iS (mx:Bool) (xs:List X)
 |VX (m k:X)
 |copy (esz:Nat) (dst src:X)
 |Rx (esz:Nat) (z:List CC) (x:X)
 |IT (agg:Bool) (n sz:Nat) (x i:X)
 |Vb (x:X)
 |Vc (x:X)
 |sb (x:X)
 |Vd (x:X)
structure LO where
 dst:Option Nat
 zD:I
 guard:Option (Nat×Bool)
inductive mE where
 |nil
 |cons (i:Nat) (IU:Option (List Nat)) (r:mE)
 |zS (a b:mE)
inductive LC where
 |skip
 |ai (ops:List LO)
 |bT (bO:List LO) (oI:List mE)
 |seq (a b:LC)
 |cond (x:X) (a b:LC)
 |block (id:Nat) (b:LC)
 |loop (b:LC)
 |exit (id:Nat)
 |ret
 |cL (a:LC)
 |v7 (x:X) (p:Nat) (a b:LC)
def LC.er:LC->LC
 | .seq a b=>.seq a.er b.er
 | .cond x a b=>.cond x a.er b.er
 | .block id b=>.block id b.er
 | .loop b=>.loop b.er
 | .cL a=>a.er
 | .v7 x p a b=>.v7 x p a.er b.er
 | .skip=>.skip
 | .ai ops=>.ai ops
 | .bT a b=>.bT a b
 | .exit id=>.exit id
 | .ret=>.ret
def LC.po:LC->Bool
 | .seq a b=>a.po&&b.po
 | .cond _ a b=>a.po&&b.po
 | .block _ b=>b.po
 | .loop b=>b.po
 | .cL a=>a.po
 | .v7 _ _ _ _=>false
 |_=>true
inductive Rv where
 |tmp (t:Nat)
 |cell (agg:Bool) (n:Nat) (t:Nat)
structure LF where
 n:Nat
 ki:List Rv
 code:LC
def LF.er(f:LF):LF:=⟨f.n,f.ki,f.code.er⟩
def cR{α:Type}:List α->Nat->Option α
 | [],_=>none
 |x::_,0=>some x
 |_::r,k+1=>cR r k
def a7{α:Type}:List α->Nat->α->List α
 | [],_,_=>[]
 |_::r,0,y=>y::r
 |x::r,k+1,y=>x::a7 r k y
def hB{α:Type}{β:Sort _}:List α->(List α->β)->β
 | [],k=>k []
 |x::r,k=>hB r fun r'=>k (x::r')
def jd:List CV->Nat->CV
 | [],_=>.aq
 |x::_,0=>x
 |_::r,k+1=>jd r k
def X.ev(e:List CV):X->CV
 | .t n=>jd e n
 | .c v=>v
def ok{α:Type}(o:Option α)(K:α->Prop):Prop:= @Option.rec α (fun _=>Prop) False K o
def bB(t:Bool)(A B:Prop):Prop:= @Bool.rec (fun _=>Prop) B A t
def gH:List CC->Nat->Nat->Option (List CC)
 |_,0,0=>some []
 | [],_,_=>none
 |c::cs,0,n+1=>match gH cs 0 n with|some l=>some (c::l)|none=>none
 |_::cs,j+1,n=>gH cs j n
def fj:List CC->Nat->List CC->Option (List CC)
 |cs,0,[]=>some cs
 | [],_,_=>none
 |_::cs,0,x::xs=>match fj cs 0 xs with|some l=>some (x::l)|none=>none
 |c::cs,j+1,xs=>match fj cs j xs with|some l=>some (c::l)|none=>none
def tR:List Dt->Nat->Option (List CC)
 |_,0=>some []
 | [],_+1=>none
 |d::ds,n+1=>match tR ds n with|some l=>some (.aa d::l)|none=>none
def cellsOf:CV->Option (List CC)
 | .rv (.one c)=>some [c]
 | .rv (.agg cs)=>some cs
 |_=>none
def Cr:CV->Option RV
 | .rv r=>some r
 |_=>none
def IV(agg:Bool)(l:List CC):Option CV:=
 match agg,l with
 |true,l=>some (.rv (.agg l))
 |false,[c]=>some (.rv (.one c))
 |false,_=>none
def hC:List CC->Bool
 | []=>true
 | .gp _ _::_=>false
 |_::r=>hC r
def dg{α:Type}(l:List α):Int->Option α
 | .ofNat k=>cR l k
 | .negSucc _=>none
def dt(n:Int)(len:Nat):Option Nat:=
 match n with
 | .ofNat k=>match Nat.blt k len with|true=>some k|false=>none
 | .negSucc _=>none
def gB(a b:Nat):Nat:=match a with|0=>b|a=>a+b
def lenOf(elems:Nat)(lo:Nat)(hi:Option Nat):Nat:=
 match lo,hi with
 |0,none=>elems
 |0,some h=>h
 |lo,none=>elems-lo
 |lo,some h=>h-lo
def ct{α:Type}(l:List α)(lo:Nat)(hi:Option Nat):List α:=
 match lo,hi with
 |0,none=>l
 |0,some h=>l.take h
 |lo,none=>l.drop lo
 |lo,some h=>(l.take h).drop lo
def m7(e:List CV):List CC->List (Nat×Nat×X)->Option (List CC)
 |z,[]=>some z
 |z,(off,sz,x)::r=>match cellsOf (x.ev e)with
  |some cs=>match Nat.beq cs.length sz with
   |true=>match fj z off cs with
    |some z'=>m7 e z' r
    |none=>none
   |false=>none
  |none=>none
def se(e:List CV)(esz:Nat):List (List CC)->List (Nat×X)->Option (List (List CC))
 |z,[]=>some z
 |z,(i,x)::r=>match cellsOf (x.ev e)with
  |some cs=>match Nat.beq cs.length esz&&Nat.blt i z.length with
   |true=>se e esz (a7 z i cs) r
   |false=>none
  |none=>none
def fI{α:Type}:Nat->α->List α
 |0,_=>[]
 |n+1,x=>x::fI n x
def E6(e:List CV):List X->List CV
 | []=>[]
 |x::r=>x.ev e::E6 e r
def tS:List CV->Option (List Nat)
 | []=>some []
 | .rv (.one (.ptr id 0))::r=>match tS r with|some l=>some (id::l)|none=>none
 |_=>none
def tz:List Nat->List CV
 | []=>[]
 |id::r=>.rv (.one (.ptr id 0))::tz r
def gX{α:Type}:List α->List α->List α
 | [],l=>l
 |x::r,l=>x::gX r l
def tT{β:Sort _}(m0:Mem):Mem->List Nat->(Nat->β)->β
 | [],n::_,k=>k n
 |_::r,_::ls,k=>tT m0 r ls k
 |_,[],k=>k m0.length
def oJ{β:Sort _}(m:Mem)(k:Nat->β):β:=
 tT m m [0,1,2,3,4,5,6,7,8,9,10,11,12,13,14,15,16,17,18,19,20,21,22,23,24,25,26,27,28,29,30,31,32,33,34,35,36,37,38,39,40,41,42,43,44,45,46,47,48,49,50,51,52,53,54,55,56,57,58,59,60,61,62,63] k
def an(k:IntKind)(n:Int):CV:= .rv (.one (.aa (.val (.int k n))))
def aA(b:Bool):CV:= .rv (.one (.aa (.val (.bool b))))
def dk(s:ByteArray):CV:= .rv (.one (.aa (.val (.string s))))
def Gu(op:BinOp):Value->Value->Option Value
 | .int k a,.int k' b=>
  match op with
  | .shl=>match decide (b<0)with|false=>some (.int k (k.wrap (a*2^(min b.toNat k.bits))))|true=>none
  | .shr=>match decide (b<0)with|false=>some (.int k (a.fdiv (2^(min b.toNat k.bits))))|true=>none
  |op=>match decide (k=k')with
   |false=>none
   |true=>match op with
    | .add=>some (.int k (k.wrap (a+b)))
    | .sub=>some (.int k (k.wrap (a-b)))
    | .mul=>some (.int k (k.wrap (a*b)))
    | .quo=>match decide (b=0)with|false=>some (.int k (k.wrap (a.tdiv b)))|true=>none
    | .rem=>match decide (b=0)with|false=>some (.int k (a.tmod b))|true=>none
    | .and=>some (.int k (k.wrap (BitVec.ofInt k.bits a&&&BitVec.ofInt k.bits b).toNat))
    | .or=>some (.int k (k.wrap (BitVec.ofInt k.bits a|||BitVec.ofInt k.bits b).toNat))
    | .xor=>some (.int k (k.wrap (BitVec.ofInt k.bits a^^^BitVec.ofInt k.bits b).toNat))
    | .andNot=>some (.int k (k.wrap (BitVec.ofInt k.bits a&&& ~~~ BitVec.ofInt k.bits b).toNat))
    | .eql=>some (.bool (a==b))
    | .neq=>some (.bool (a !=b))
    | .lss=>some (.bool (decide (a<b)))
    | .leq=>some (.bool (decide (a<=b)))
    | .gtr=>some (.bool (decide (a>b)))
    | .geq=>some (.bool (decide (a>=b)))
    |_=>none
 | .string a,.string b=>
  match op with
  | .add=>match decide (((a.size+b.size:Nat):Int)>IntKind.i64.max)with|false=>some (.string (a++b))|true=>none
  | .eql=>some (.bool (a.toList==b.toList))
  | .neq=>some (.bool (!(a.toList==b.toList)))
  | .lss=>some (.bool (Op.bytesLess a.toList b.toList))
  | .leq=>some (.bool (Op.bytesLess a.toList b.toList||a.toList==b.toList))
  | .gtr=>some (.bool (!(Op.bytesLess a.toList b.toList||a.toList==b.toList)))
  | .geq=>some (.bool (!(Op.bytesLess a.toList b.toList)))
  |_=>none
 |_,_=>none
def Ve(op:UnOp):Value->Option Value
 | .bool b=>match op with| .not=>some (.bool (!b))|_=>none
 | .int k n=>match op with| .neg=>some (.int k (k.wrap (0-n)))|_=>none
 |_=>none
def Mw:Kd->Value->Value->Option Bool
 | .i,.int k a,.int k' b=>match decide (k=k')with|true=>some (a==b)|false=>none
 | .s,.string a,.string b=>some (a.toList==b.toList)
 | .b,.bool a,.bool b=>some (a==b)
 |_,_,_=>none
def je:List Kd->List CC->List CC->Option Bool
 | [],[],[]=>some true
 |k::ks,.aa (.val a)::r,.aa (.val b)::s=>match Mw k a b,je ks r s with
  |some x,some y=>some (x&&y)
  |_,_=>none
 |_,_,_=>none
def ar(P:Program)(f:Nat)(args:List CV)(m:Mem)(K:CV->Mem->Prop):Prop:=
 (∃fn,P.funcs[f]? =some fn/\fn.body.isSome=true/\(fn.name== "runtime.NumGoroutine")=false)/\
 ∀(ρ:bH)(w:World)(vs:List Value),aC ρ m w->vs.length=args.length->(∀(i:Nat)c,args[i]? =some c->∃v,vs[i]? =some v/\bW ρ w c v)->
  Calls P f vs.toArray w fun e w'=>∃v r m' ρ',e= .returned v/\K r m'/\aC ρ' m' w'/\bW ρ' w' r v/\Ext ρ m w ρ' m' w'
def fV{β:Sort _}(v:CV)(k:CV->β):β:=
 match v with
 | .aq=>k .aq
 | .undef=>k .undef
 | .rv r=>match r with
  | .one c=>k (.rv (.one c))
  | .agg cs=>hB cs fun cs=>k (.rv (.agg cs))
 | .bG rs=>k (.bG rs)
def wI(a b:Value):Option Bool:=
 match a,b with
 | .int k x,.int k' y=>match decide (k=k')with|true=>some (x==y)|false=>none
 | .string x,.string y=>some (x==y)
 | .bool x,.bool y=>some (x==y)
 |_,_=>none
def zT(k:Value):List ME->Option (Option RV)
 | []=>some none
 |e::es=>match wI k e.key with
  |some true=>some (some e.val)
  |some false=>zT k es
  |none=>none
def IW(k:Value)(v:RV):List ME->Option (List ME)
 | []=>some [⟨k,v⟩]
 |e::es=>match wI k e.key with
  |some true=>some (⟨k,v⟩::es)
  |some false=>match IW k v es with|some l=>some (e::l)|none=>none
  |none=>none
def tU(e:List CV)(m:Mem)(agg:Bool)(n:Nat)(a:CV)(K:CV->Prop):Prop:=
 match a with
 | .rv (.one (.ptr id j))=>ok (cR m id) fun bk=>match bk with
  | .var cs=>ok (gH cs j n) fun l=>ok (IV agg l) K
  |_=>False
 | .rv (.one (.lW id esz i j))=>ok (cR m id) fun bk=>match bk with
  | .row m8 elems=>bB (Nat.beq esz m8) (ok (cR elems i) fun cells=>ok (gH cells j n) fun l=>bB (hC l) (ok (IV agg l) K) False) False
  |_=>False
 | .rv (.one (.pk ds))=>ok (tR ds n) fun l=>ok (IV agg l) K
 |_=>False
def eR(m:Mem)(esz:Nat)(v:CV):Option (List (List CC)):=
 match v with
 | .rv (.one (.aa (.sl e elems)))=>match Nat.beq e esz with
  |true=>some (elems.map fun ds=>ds.map .aa)
  |false=>none
 | .rv (.one (.row id e lo hi))=>match cR m id with
  |some (.row e2 rows)=>match Nat.beq e esz,Nat.beq e2 esz with
   |true,true=>some (ct rows lo hi)
   |_,_=>none
  |_=>none
 | .rv (.one .aB)=>some []
 |_=>none
def gY(m:Mem)(v:CV):Mem:=
 match v with
 | .rv (.one (.row id _ _ _))=>a7 m id .aZ
 |_=>m
def tV(v:CV):Bool:=
 match v with
 | .rv (.one (.row _ _ _ _))=>true
 | .rv (.one .aB)=>true
 |_=>false
def E7(a b:CV):Bool:=
 match a,b with
 | .rv (.one (.row i _ _ _)),.rv (.one (.row j _ _ _))=>!(Nat.beq i j)
 |_,_=>true
def CC.hC:CC->Bool
 | .gp _ _=>false
 |_=>true
def oK:List CC->Bool
 | []=>true
 |c::r=>c.hC&&oK r
def eS:List (List CC)->Bool
 | []=>true
 |c::r=>oK c&&eS r
def cC{α:Type}(l:List α)(h:Nat)(E:List α):List α:=l.take h++(E++l.drop (h+E.length))
def oL(hi:Option Nat)(n:Nat):Nat:=match hi with|some h=>h|none=>n
def oi(v:CV):Option Nat:=
 match v with
 | .rv (.one (.aa (.val (.int _ (.ofNat k)))))=>some k
 |_=>none
def jE(e:List CV)(o:Option X)(d:Nat):Option Nat:=
 match o with
 |none=>some d
 |some x=>oi (x.ev e)
def Vf(v:CV):Bool:=
 match v with
 | .rv (.one (.aa (.val (.int _ n))))=>decide (n=0)
 |_=>false
def Cs(e:List CV)(o:Option X):Bool:=
 match o with
 |none=>false
 |some x=>Vf (x.ev e)
def IX(v:CV):Bool:=
 match v with
 | .rv (.one (.aa (.sl _ _)))=>true
 | .rv (.one (.row _ _ _ _))=>true
 | .rv (.one .aB)=>true
 |_=>false
def ou:List (List CC)->Option (List Int)
 | []=>some []
 | [.aa (.val (.int .u8 n))]::r=>match ou r with|some l=>some (n::l)|none=>none
 |_=>none
def lX(s:ByteArray):List (List CC):=s.data.toList.map fun b=>[.aa (.val (.int .u8 b.toNat))]
def IY(m:Mem)(v:CV):Option (List ME):=
 match v with
 | .rv (.one (.map id))=>match cR m id with|some (.mp es)=>some es|_=>none
 | .rv (.one (.aa (.val (.map none))))=>some []
 |_=>none
def v8:Ky->Value->Bool
 | .i k,.int k' _=>decide (k'=k)
 | .s,.string _=>true
 | .b,.bool _=>true
 |_,_=>false
def R1(okF:Bool)(z:RV)(o:Option RV):CV:=
 match okF,o with
 |false,none=>.rv z
 |false,some v=>.rv v
 |true,none=>.bG [z,.one (.aa (.val (.bool false)))]
 |true,some v=>.bG [v,.one (.aa (.val (.bool true)))]
def pq:List ME->Option (List (Value×Value))
 | []=>some []
 |⟨k,.one (.aa (.val v))⟩::r=>match cI k&&cI v with
  |true=>(pq r).map ((k,v):: ·)
  |false=>none
 |_=>none
def step(P:Program)(i:I)(e:List CV)(m:Mem)(K:CV->Mem->Prop):Prop:=
 match i with
 | .aD x=>K (x.ev e) m
 | .pick c a b=>match c.ev e with
  | .rv (.one (.aa (.val (.bool t))))=>bB t (K (a.ev e) m) (K (b.ev e) m)
  |_=>False
 | .alloc z=>oJ m fun n=>K (.rv (.one (.ptr n 0))) (gX m [.var z])
 | .box x=>ok (cellsOf (x.ev e)) fun cs=>oJ m fun n=>K (.rv (.one (.ptr n 0))) (gX m [.var cs])
 | .build z ps=>ok (m7 e z ps) fun cs=>K (.rv (.agg cs)) m
 | .lu esz z len ps=>ok (se e esz (fI len z) ps) fun rows=>hB rows fun rows=>oJ m fun n=>K (.rv (.one (.row n esz 0 none))) (gX m [.row esz rows])
 | .load agg n a=>tU e m agg n (a.ev e) fun v=>K v m
 | .store n a x=>ok (cellsOf (x.ev e)) fun xs=>bB (Nat.beq xs.length n) (match a.ev e with
  | .rv (.one (.ptr id j))=>ok (cR m id) fun bk=>match bk with
   | .var cs=>ok (fj cs j xs) fun ek=>K .undef (a7 m id (.var ek))
   |_=>False
  | .rv (.one (.lW id esz i j))=>ok (cR m id) fun bk=>match bk with
   | .row m8 elems=>bB (Nat.beq esz m8) (ok (cR elems i) fun cells=>bB (hC cells) (ok (fj cells j xs) fun eK=>K .undef (a7 m id (.row m8 (a7 elems i eK)))) False) False
   |_=>False
  |_=>False) False
 | .bQ off a=>match a.ev e with
  | .rv (.one (.ptr id j))=>K (.rv (.one (.ptr id (j+off)))) m
  | .rv (.one (.lW id esz i j))=>K (.rv (.one (.lW id esz i (j+off)))) m
  | .rv (.one (.pk ds))=>K (.rv (.one (.pk (ds.drop off)))) m
  |_=>False
 | .RZ agg off n a=>match a.ev e with
  | .rv (.agg cs)=>ok (gH cs off n) fun l=>ok (IV agg l) fun v=>K v m
  |_=>False
 | .b7 esz a i=>match i.ev e with
  | .rv (.one (.aa (.val (.int _ n))))=>match a.ev e with
   | .rv (.one (.aa (.sl m8 elems)))=>bB (Nat.beq esz m8) (ok (dg elems n) fun ds=>K (.rv (.one (.pk ds))) m) False
   | .rv (.one (.row id m8 lo hi))=>ok (cR m id) fun bk=>match bk with
    | .row wa elems=>bB (Nat.beq esz m8) (bB (Nat.beq esz wa) (ok (dt n (lenOf elems.length lo hi)) fun k=>K (.rv (.one (.lW id esz (gB lo k) 0))) m) False) False
    |_=>False
   |_=>False
  |_=>False
 | .tP len esz a i=>match i.ev e with
  | .rv (.one (.aa (.val (.int _ n))))=>match a.ev e with
   | .rv (.one (.ptr id j))=>ok (dt n len) fun k=>K (.rv (.one (.ptr id (j+k*esz)))) m
   | .rv (.one (.lW id s i' j))=>ok (dt n len) fun k=>K (.rv (.one (.lW id s i' (j+k*esz)))) m
   | .rv (.one (.pk ds))=>ok (dt n len) fun k=>K (.rv (.one (.pk (ds.drop (k*esz))))) m
   |_=>False
  |_=>False
 | .zR a i=>match i.ev e with
  | .rv (.one (.aa (.val (.int _ n))))=>match a.ev e with
   | .rv (.one (.aa (.val (.string s))))=>ok (dg s.data.toList n) fun b=>K (an .u8 b.toNat) m
   |_=>False
  |_=>False
 | .aE op x y=>match x.ev e with
  | .rv (.one (.aa (.val a)))=>match y.ev e with
   | .rv (.one (.aa (.val b)))=>ok (Gu op a b) fun v=>K (.rv (.one (.aa (.val v)))) m
   |_=>False
  |_=>False
 | .Mv neg n x y=>match x.ev e with
  | .rv (.agg cs)=>match y.ev e with
   | .rv (.agg ds)=>ok (je n cs ds) fun b=>K (aA (match neg with|true=>!b|false=>b)) m
   |_=>False
  |_=>False
 | .beq neg x y=>match x.ev e with
  | .rv (.one (.aa (.val (.bool a))))=>match y.ev e with
   | .rv (.one (.aa (.val (.bool b))))=>K (aA (match neg with|true=>!(a==b)|false=>a==b)) m
   |_=>False
  |_=>False
 | .un op x=>match x.ev e with
  | .rv (.one (.aa (.val a)))=>ok (Ve op a) fun v=>K (.rv (.one (.aa (.val v)))) m
  |_=>False
 | .conv k x=>match x.ev e with
  | .rv (.one (.aa (.val (.int _ n))))=>K (an k (k.wrap n)) m
  |_=>False
 | .R0 x=>match x.ev e with
  | .rv (.one (.aa (.val (.string s))))=>K (dk s) m
  |_=>False
 | .fn f dN=>ok (tS (E6 e dN)) fun iZ=>K (.rv (.one (.fn f iZ))) m
 | .len 1 x=>match x.ev e with
  | .rv (.one (.aa (.sl _ elems)))=>K (an .i64 (elems.length:Int)) m
  | .rv (.one (.row id _ lo hi))=>ok (cR m id) fun bk=>match bk with
   | .row _ elems=>K (an .i64 (lenOf elems.length lo hi:Int)) m
   |_=>False
  | .rv (.one .aB)=>K (an .i64 0) m
  |_=>False
 | .len 0 x=>match x.ev e with
  | .rv (.one (.aa (.val (.string s))))=>K (an .i64 (s.size:Int)) m
  |_=>False
 | .len 2 x=>match x.ev e with
  | .rv (.one (.map id))=>ok (cR m id) fun bk=>match bk with
   | .mp es=>K (an .i64 (es.length:Int)) m
   |_=>False
  |_=>False
 | .call f args=>match f.ev e with
  | .rv (.one (.fn f dN))=>ar P f (gX (E6 e args) (tz dN)) m K
  |_=>False
 | .ext x i=>match x.ev e with
  | .bG rs=>ok (cR rs i) fun r=>K (.rv r) m
  |_=>False
 | .mY esz bytes dst src=>bB (tV (dst.ev e)&&E7 (dst.ev e) (src.ev e)) (ok (eR m esz (dst.ev e)) fun E1=>ok (eR m esz (src.ev e)) fun E2=>
   (E1.length+E2.length)*bytes<=140737488355328/\oJ m fun n=>K (.rv (.one (.row n esz 0 none))) (gX (gY (gY m (dst.ev e)) (src.ev e)) [.row esz (E1++E2)]))
   (match dst.ev e with
   | .rv (.one (.row id e1 lo (some h)))=>ok (cR m id) fun bk=>match bk with
    | .row e2 rows=>ok (eR m esz (src.ev e)) fun E2=>bB (Nat.beq lo 0&&(Nat.beq e1 esz&&(Nat.beq e2 esz&&(Nat.ble 1 rows.length&&(Nat.ble (h+E2.length) rows.length&&eS E2)))))
     (rows.length*bytes<=140737488355328/\K (.rv (.one (.row id esz 0 (some (h+E2.length))))) (a7 m id (.row esz (cC rows h E2)))) False
    |_=>False
   |_=>False)
 | .v6 neg x=>match x.ev e with
  | .rv (.one (.aa (.sl _ elems)))=>bB (Nat.beq elems.length 0) (K (aA true) m/\K (aA false) m) (K (aA neg) m)
  | .rv (.one (.row id _ lo hi))=>ok (cR m id) fun bk=>match bk with
   | .row _ elems=>bB (Nat.beq (lenOf elems.length lo hi) 0) (K (aA true) m/\K (aA false) m) (K (aA neg) m)
   |_=>False
  | .rv (.one .aB)=>K (aA true) m/\K (aA false) m
  |_=>False
 | .m6 esz x lo hi (some mx)=>bB (lo.isNone&&Cs e hi&&Vf (mx.ev e)&&IX (x.ev e)) (K (.rv (.one .aB)) m)
   (ok (jE e lo 0) fun l=>ok (eR m esz (x.ev e)) fun E=>ok (jE e hi E.length) fun h=>ok (oi (mx.ev e)) fun R2=>bB (lo.isSome&&(hi.isSome&&(Nat.ble l h&&(Nat.ble h R2&&Nat.ble R2 E.length)))) (K .aq m) False)
 | .m6 esz x lo hi none=>ok (jE e lo 0) fun l=>match x.ev e with
  | .rv (.one (.aa (.sl e2 elems)))=>bB (Nat.beq e2 esz) (ok (jE e hi elems.length) fun h=>bB (Nat.ble l h&&Nat.ble h elems.length) (K (.rv (.one (.aa (.sl esz ((elems.take h).drop l))))) m) False) False
  | .rv (.one (.row id e2 Ct tC))=>ok (cR m id) fun bk=>match bk with
   | .row _ elems=>bB (Nat.beq e2 esz) (ok (jE e hi (lenOf elems.length Ct tC)) fun h=>bB (Nat.ble l h&&Nat.ble h (elems.length-Ct)) (K (.rv (.one (.row id esz (gB Ct l) (some (gB Ct h))))) m) False) False
   |_=>False
  |_=>False
 | .xZ x lo hi=>match x.ev e with
  | .rv (.one (.aa (.val (.string s))))=>ok (jE e lo 0) fun l=>ok (jE e hi s.size) fun h=>bB (Nat.ble l h&&Nat.ble h s.size) (K (dk (s.extract l h)) m) False
  |_=>False
 | .aR x=>match x.ev e with
  | .rv (.one (.ptr id j))=>K (.rv (.one (.ptr id j))) m
  | .rv (.one (.lW id s i j))=>K (.rv (.one (.lW id s i j))) m
  | .rv (.one (.pk ds))=>K (.rv (.one (.pk ds))) m
  |_=>False
 | .Mf x=>ok (eR m 1 (x.ev e)) fun E=>ok (ou E) fun xs=>K (dk (strOfNums xs)) m
 | .Rw x=>match x.ev e with
  | .rv (.one (.aa (.val (.string s))))=>s.size<=140737488355328/\oJ m fun n=>K (.rv (.one (.row n 1 0 none))) (gX m [.row 1 (lX s)])
  |_=>False
 | .iS mx [x,y]=>match x.ev e with
  | .rv (.one (.aa (.val (.int k a))))=>match y.ev e with
   | .rv (.one (.aa (.val (.int _ b))))=>match mx with
    |true=>K (an k (if b>a then b else a)) m
    |false=>K (an k (if b<a then b else a)) m
   |_=>False
  |_=>False
 | .Vb x=>match x.ev e with
  | .rv (.one (.row id e1 lo hi))=>ok (cR m id) fun bk=>match bk with
   | .row esz rows=>bB (Nat.beq esz 1&&Nat.blt lo rows.length) (K (.rv (.one (.row id e1 lo hi))) m) False
   |_=>False
  |_=>False
 | .Rx esz z x=>match x.ev e with
  | .rv (.one (.row id e1 lo hi))=>ok (cR m id) fun bk=>match bk with
   | .row e2 rows=>bB (Nat.beq e1 esz&&(Nat.beq e2 esz&&Nat.ble (oL hi rows.length) rows.length))
     (bB (Nat.blt lo (oL hi rows.length)) (K (.bG []) (a7 m id (.row esz (cC rows lo (fI (oL hi rows.length-lo) z))))) (K (.bG []) m)) False
   |_=>False
  | .rv (.one .aB)=>K (.bG []) m
  |_=>False
 | .copy esz d s=>ok (eR m esz (s.ev e)) fun E=>bB (Nat.beq E.length 0) (bB (IX (d.ev e)) (K (an .i64 0) m) False)
   (match d.ev e with
   | .rv (.one (.row id e1 lo hi))=>ok (cR m id) fun bk=>match bk with
    | .row e2 rows=>bB (Nat.beq e1 esz&&(Nat.beq e2 esz&&(Nat.ble (oL hi rows.length) rows.length&&(Nat.ble (lo+E.length) (oL hi rows.length)&&eS E)))) (K (an .i64 (E.length:Int)) (a7 m id (.row esz (cC rows lo E)))) False
    |_=>False
   |_=>False)
 | .IT agg n sz x i=>match i.ev e with
  | .rv (.one (.aa (.val (.int _ j))))=>match x.ev e with
   | .rv (.agg cs)=>ok (dt j n) fun k=>ok (gH cs (k*sz) sz) fun l=>ok (IV agg l) fun v=>K v m
   |_=>False
  |_=>False
 | .Vc x=>match x.ev e with
  | .rv (.one (.map id))=>ok (cR m id) fun bk=>match bk with
   | .mp es=>ok (pq es) fun l=>oJ m fun n=>K (.rv (.one (.ptr n 0))) (gX (a7 m id .aZ) [.it [] l])
   |_=>False
  |_=>False
 | .sb x=>match x.ev e with
  | .rv (.one (.ptr id 0))=>ok (cR m id) fun bk=>match bk with
   | .it _ left=>(left=[]->K (.bG [.one (.aa (.val (.bool false)))]) m)/\∀(i:Nat)(k v:Value)(Oi:List (Value×Value)),left[i]? =some (k,v)->Oi=left.eraseIdx i->K (.bG [.one (.aa (.val (.bool true))),.one (.aa (.val k)),.one (.aa (.val v))]) (a7 m id (.it [(k,v)] Oi))
   |_=>False
  |_=>False
 | .Vd x=>match x.ev e with
  | .rv (.one (.ptr id 0))=>ok (cR m id) fun bk=>match bk with
   | .it (p::_) _=>K (.bG [.one (.aa (.val p.1)),.one (.aa (.val p.2))]) m
   |_=>False
  |_=>False
 | .tQ=>oJ m fun n=>K (.rv (.one (.map n))) (gX m [.mp []])
 | .nR esz bytes z nx cx=>ok (oi (nx.ev e)) fun l=>ok (oi (cx.ev e)) fun c=>bB (Nat.beq l c) (c*bytes<=140737488355328/\oJ m fun n=>K (.rv (.one (.row n esz 0 none))) (gX m [.row esz (fI l z)])) False
 | .Gt z kk mx kx okF=>match kx.ev e with
  | .rv (.one (.aa (.val kv)))=>bB (v8 kk kv) (ok (IY m (mx.ev e)) fun es=>ok (zT kv es) fun o=>K (R1 okF z o) m) False
  |_=>False
 | .x4 kk mx kx vx=>match mx.ev e with
  | .rv (.one (.map id))=>match kx.ev e with
   | .rv (.one (.aa (.val kv)))=>bB (v8 kk kv) (ok (cR m id) fun bk=>match bk with
    | .mp es=>ok (Cr (vx.ev e)) fun v=>ok (IW kv v es) fun cJ=>K .undef (a7 m id (.mp cJ))
    |_=>False) False
   |_=>False
  |_=>False
 |_=>False
def tW:Value->Option CC
 | .slice none 0 0=>some .aB
 |v=>match cI v with|true=>some (.aa (.val v))|false=>none
def bh:Operand->Option X
 | .tmp t=>some (.t t)
 | .const v=>(tW v).map fun c=>.c (.rv (.one c))
 | .func f=>some (.c (.rv (.one (.fn f []))))
 | .global _=>none
def sf:List Operand->Option (List X)
 | []=>some []
 |x::r=>do some ((<-bh x)::(<-sf r))
def gq:Option Operand->Option (Option X)
 |none=>some none
 |some x=>do some (some (<-bh x))
def d9(P:Program)(t:TypeId):Option Nat:=(P.info? t).map (·.size)
def dU(P:Program)(t:TypeId):Option Bool:=(P.underlying t).map fun| .struct _| .array _ _=>true|_=>false
def lv:List Value->Option (List CC)
 | []=>some []
 |v::r=>do some ((<-tW v)::(<-lv r))
def dE(P:Program)(t:TypeId):Option (List CC):=do lv (<-(<-P.info? t).zero).cells.toList
def lw(P:Program)(fs:Array Field):List (Nat×Operand)->Option (List (Nat×Nat×X))
 | []=>some []
 |(i,x)::r=>do
  let f<-fs[i]?
  some ((f.offset,<-d9 P f.type,<-bh x)::(<-lw P fs r))
def jw(sz:Nat):List (Nat×Operand)->Option (List (Nat×Nat×X))
 | []=>some []
 |(i,x)::r=>do some ((i*sz,sz,<-bh x)::(<-jw sz r))
def jx:List (Nat×Operand)->Option (List (Nat×X))
 | []=>some []
 |(i,x)::r=>do some ((i,<-bh x)::(<-jx r))
def zU(g:TypeId->Option (List Kd)):List Field->Nat->Option (List Kd)
 | [],_=>some []
 |f::r,off=>if f.name≠ "_" /\f.offset=off then
   match g f.type with
   |some ks=>match zU g r (off+ks.length)with
    |some ls=>some (ks++ls)
    |none=>none
   |none=>none
  else none
def flatK(P:Program):Nat->TypeId->Option (List Kd)
 |0,_=>none
 |d+1,t=>match P.underlying t with
  |some .bool=>if d9 P t=some 1 then some [.b]else none
  |some (.int _)=>if d9 P t=some 1 then some [.i]else none
  |some .string=>if d9 P t=some 1 then some [.s]else none
  |some (.struct fs)=>if P.stoodInHeld t=false then
    match zU (flatK P d) fs.toList 0 with
    |some ks=>if d9 P t=some ks.length then some ks else none
    |none=>none
   else none
  |_=>none
def Gv(P:Program)(t:TypeId):Option Ky:=
 match P.underlying t with
 |some (.int k)=>some (.i k)
 |some .string=>some .s
 |some .bool=>some .b
 |_=>none
def E8(P:Program)(t:TypeId):Option RV:=do
 match (<-(<-P.info? t).zero)with
 | .agg cs=>do some (.agg (<-lv cs.toList))
 |v=>do some (.one (<-tW v))
def tX(P:Program)(o:Oper):Option I:=
 match o.op with
 | .move x| .assign x=>do some (.aD (<-bh x))
 | .pick c a b=>do some (.pick (<-bh c) (<-bh a) (<-bh b))
 | .alloc t=>do some (.alloc (<-dE P t))
 | .box _ x=>do some (.box (<-bh x))
 | .build t ps=>do
  let z<-dE P t
  match P.underlying t with
  |some (.struct fs)=>if(fs.toList.mapM (fun f=>(P.info? f.type).map fun i=>(f.offset,i.size))).isSome then some (.build z (<-lw P fs ps.toList))else none
  |some (.array _ e)=>some (.build z (<-jw (<-d9 P e) ps.toList))
  |_=>none
 | .buildSlice t n ps=>do
  match P.underlying t with
  |some (.slice e)=>
   let z<-dE P e
   if(<-d9 P e)=z.length/\0<z.length/\n*z.length<=2^24 then some (.lu z.length z n (<-jx ps.toList))else none
  |_=>none
 | .load t a=>do some (.load (<-dU P t) (<-d9 P t) (<-bh a))
 | .store t a x=>do
  let n<-d9 P t
  if n=0 then none else some (.store n (<-bh a) (<-bh x))
 | .fieldAddr t a k=>do
  match P.underlying t with
  |some (.struct fs)=>
   let f<-fs[k]?
   if(<-d9 P f.type)=0 then none else some (.bQ f.offset (<-bh a))
  |_=>none
 | .field t a k=>do
  match P.underlying t with
  |some (.struct fs)=>
   let f<-fs[k]?
   some (.RZ (<-dU P f.type) f.offset (<-d9 P f.type) (<-bh a))
  |_=>none
 | .indexAddr t a i=>do
  match P.underlying t with
  |some (.slice e)=>some (.b7 (<-d9 P e) (<-bh a) (<-bh i))
  |some (.array n e)=>some (.tP n (<-d9 P e) (<-bh a) (<-bh i))
  |_=>none
 | .index t a i=>do
  match P.underlying t with
  |some .string=>some (.zR (<-bh a) (<-bh i))
  |some (.array n e)=>some (.IT (<-dU P e) n (<-d9 P e) (<-bh a) (<-bh i))
  |_=>none
 | .binOp op t x y _=>do
  match P.underlying t with
  |some (.int _)|some .string=>some (.aE op (<-bh x) (<-bh y))
  |some (.slice _)=>match y,op with
   | .const (.slice none 0 0),.eql=>some (.v6 false (<-bh x))
   | .const (.slice none 0 0),.neq=>some (.v6 true (<-bh x))
   |_,_=>none
  |some .bool=>match op with
   | .eql=>some (.beq false (<-bh x) (<-bh y))
   | .neq=>some (.beq true (<-bh x) (<-bh y))
   |_=>none
  |some (.array n e)=>match P.eqGuardType P.depth t,P.underlying e,d9 P e,op with
   |false,some (.int _),some 1,.eql=>some (.Mv false (fI n .i) (<-bh x) (<-bh y))
   |false,some (.int _),some 1,.neq=>some (.Mv true (fI n .i) (<-bh x) (<-bh y))
   |_,_,_,_=>none
  |some (.struct _)=>match P.eqGuardType P.depth t,flatK P 5 t,op with
   |false,some ks,.eql=>some (.Mv false ks (<-bh x) (<-bh y))
   |false,some ks,.neq=>some (.Mv true ks (<-bh x) (<-bh y))
   |_,_,_=>none
  |_=>none
 | .unOp op _ x=>do some (.un op (<-bh x))
 | .convert s d x=>do
  match P.underlying s,P.underlying d with
  |some (.int _),some (.int k)=>some (.conv k (<-bh x))
  |some .string,some .string=>some (.R0 (<-bh x))
  |some (.slice e),some .string=>match P.underlying e with
   |some (.int .u8)=>some (.Mf (<-bh x))
   |_=>none
  |some .string,some (.slice e)=>match P.underlying e with
   |some (.int .u8)=>some (.Rw (<-bh x))
   |_=>none
  |some (.slice _),some (.slice e)=>match s==d,P.underlying e with
   |true,some (.int .u8)=>some (.Vb (<-bh x))
   |_,_=>none
  |_,_=>none
 | .makeMap t r=>match r,P.underlying t with
  |none,_=>some .tQ
  |some (.const (.int _ _)),some (.map _ _)=>some .tQ
  |_,_=>none
 | .makeSlice t l c=>do
  match P.underlying t with
  |some (.slice e)=>
   let i<-P.info? e;let z<-dE P e
   if i.size=z.length/\0<z.length/\0<i.bytes then some (.nR i.size i.bytes z (<-bh l) (<-bh c))else none
  |_=>none
 | .lookup t x k b=>do
  match P.underlying t with
  |some (.map kt vt)=>some (.Gt (<-E8 P vt) (<-Gv P kt) (<-bh x) (<-bh k) b)
  |_=>none
 | .mapUpdate t x k v| .insert t x k v=>do
  match P.underlying t with
  |some (.map kt _)=>some (.x4 (<-Gv P kt) (<-bh x) (<-bh k) (<-bh v))
  |_=>none
 | .makeFunc (.func f) fst dN=>if fst.size=0 then do some (.fn f (<-sf dN.toList))else none
 | .extract x i=>do some (.ext (<-bh x) i)
 | .nilCheck x=>do some (.aR (<-bh x))
 | .range t x=>match P.underlying t with
  |some (.map _ _)=>do some (.Vc (<-bh x))
  |_=>none
 | .next it false=>do some (.sb (<-bh it))
 | .entry it=>do some (.Vd (<-bh it))
 | .slice t x lo hi mx=>do
  match P.underlying t with
  |some (.slice e)=>some (.m6 (<-d9 P e) (<-bh x) (<-gq lo) (<-gq hi) (<-gq mx))
  |some .string=>match mx with
   |none=>some (.xZ (<-bh x) (<-gq lo) (<-gq hi))
   |some _=>none
  |_=>none
 | .call {callee:= .builtin .len,args,argTypes}=>do
  match args.toList,argTypes.toList with
  | [x],[t]=>match P.underlying t with
   |some .string=>some (.len 0 (<-bh x))
   |some (.slice _)=>some (.len 1 (<-bh x))
   |some (.map _ _)=>some (.len 2 (<-bh x))
   |_=>none
  |_,_=>none
 | .call {callee:= .builtin .append,args,argTypes}=>do
  match args.toList,argTypes.toList with
  | [x,y],[t,t2]=>match P.underlying t,P.underlying t2 with
   |some (.slice e),some (.slice e2)=>
    let i<-P.info? e;let z<-dE P e
    if i.size=z.length/\0<z.length/\0<i.bytes then some (.mY i.size i.bytes (<-bh x) (<-bh y))else none
   |_,_=>none
  |_,_=>none
 | .call {callee:= .builtin .max,args,..}=>do
  match args.toList with
  | [x,y]=>some (.iS true [<-bh x,<-bh y])
  |_=>none
 | .call {callee:= .builtin .min,args,..}=>do
  match args.toList with
  | [x,y]=>some (.iS false [<-bh x,<-bh y])
  |_=>none
 | .call {callee:= .builtin .clear,args,argTypes}=>do
  match args.toList,argTypes.toList with
  | [x],[t]=>match P.underlying t with
   |some (.slice e)=>
    let i<-P.info? e;let z<-dE P e
    if i.size=z.length then some (.Rx i.size z (<-bh x))else none
   |_=>none
  |_,_=>none
 | .call {callee:= .builtin .copy,args,argTypes}=>do
  match args.toList,argTypes.toList with
  | [x,y],[t,_]=>match P.underlying t with
   |some (.slice e)=>
    let i<-P.info? e;let z<-dE P e
    if i.size=z.length then some (.copy i.size (<-bh x) (<-bh y))else none
   |_=>none
  |_,_=>none
 | .call {callee:= .value f,args,..}=>do some (.call (<-bh f) (<-sf args.toList))
 |_=>none
def IZ:I:= .iS true []
def qN(P:Program)(o:Oper):Option I:=
 match tX P o with
 |some i=>some i
 |none=>match o.op with
  | .defer _=>none
  |_=>some IZ
theorem Mx(P:Program){e:List CV}{m:Mem}{K:CV->Mem->Prop}:step P IZ e m K=False:=rfl
theorem Cu{P:Program}{o:Oper}{i:I}(h:qN P o=some i):tX P o=some i\/i=IZ:=by
 unfold qN at h;split at h
 .rename_i j hj;exact .inl (by rw[hj];exact h)
 .split at h
  .cases h
  .cases h;exact .inr rfl
def I0(ops:Array Oper):Option (Nat×Bool)->Option (Option (Nat×Bool))
 |none=>some none
 |some (j,b)=>do some (some (<-(<-ops[j]?).dst,b))
def tY(P:Program)(ops:Array Oper)(o:Oper):Option LO:=do some ⟨o.dst,<-qN P o,<-I0 ops o.guard⟩
def lA(P:Program)(ops:Array Oper):List Oper->Option (List LO)
 | []=>some []
 |o::r=>do some ((<-tY P ops o)::(<-lA P ops r))
def I.xs:I->List X
 | .aD x=>[x]
 | .pick c a b=>[c,a,b]
 | .alloc _=>[]
 | .box x=>[x]
 | .build _ ps=>ps.map fun p=>p.2.2
 | .lu _ _ _ ps=>ps.map fun p=>p.2
 | .load _ _ a=>[a]
 | .store _ a x=>[a,x]
 | .bQ _ a=>[a]
 | .RZ _ _ _ a=>[a]
 | .b7 _ a i=>[a,i]
 | .tP _ _ a i=>[a,i]
 | .zR a i=>[a,i]
 | .aE _ x y=>[x,y]
 | .Mv _ _ x y=>[x,y]
 | .beq _ x y=>[x,y]
 | .un _ x=>[x]
 | .conv _ x=>[x]
 | .R0 x=>[x]
 | .Rw x=>[x]
 | .Mf x=>[x]
 | .m6 _ x lo hi mx=>x::(lo.toList++hi.toList++mx.toList)
 | .xZ x lo hi=>x::(lo.toList++hi.toList)
 | .fn _ dN=>dN
 | .len _ x=>[x]
 | .mY _ _ d s=>[d,s]
 | .call f args=>f::args
 | .ext x _=>[x]
 | .aR x=>[x]
 | .v6 _ x=>[x]
 | .tQ=>[]
 | .nR _ _ _ n c=>[n,c]
 | .Gt _ _ m k _=>[m,k]
 | .x4 _ m k v=>[m,k,v]
 | .iS _ xs=>xs
 | .VX m k=>[m,k]
 | .copy _ d s=>[d,s]
 | .Rx _ _ x=>[x]
 | .IT _ _ _ x i=>[x,i]
 | .Vb x=>[x]
 | .Vc x=>[x]
 | .sb x=>[x]
 | .Vd x=>[x]
def kj:List X->List Nat
 | []=>[]
 | .t n::r=>n::kj r
 | .c _::r=>kj r
def LO.looks(lo:LO):List Nat:=
 match lo.guard with
 |none=>kj lo.zD.xs
 |some (s,_)=>s::kj lo.zD.xs
def wJ:I->Bool
 | .aD _| .pick .. | .build .. | .bQ .. | .RZ .. | .IT .. | .tP .. | .zR .. | .aE .. | .Mv .. | .beq .. | .un .. | .conv .. | .R0 .. | .fn .. | .ext .. | .aR _| .xZ .. =>true
 |_=>false
def qQ(i:I):Bool:=wJ i||match i with| .load .. | .b7 .. | .len .. | .m6 .. =>true|_=>false
def x5(ec:List Nat)(l:List Nat):Nat:=l.foldr (fun j m=>Nat.lor m (Nat.lor (Nat.shiftLeft 1 j) ((cR ec j).getD 0))) 0
def Cv(fY:List (List Nat))(ec:List Nat):List Nat:=fY.map (x5 ec)
def x6(fY:List (List Nat)):Nat->List Nat->List Nat
 |0,ec=>ec
 |k+1,ec=>let a:=Cv fY ec;match a==ec with|true=>ec|false=>x6 fY k a
def bm(n:Nat)(fY:List (List Nat)):List Nat:=x6 fY n []
def lY(ms:List Nat)(i j:Nat):Bool:=Nat.testBit ((cR ms i).getD 0) j
def cS(bO:List LO)(t j:Nat):Bool:=match cR bO j with|some lo=>(match lo.dst with|some d=>Nat.beq d t|none=>false)|none=>false
def m9(bO:List LO)(j:Nat):List Nat:=match cR bO j with|some lo=>lo.looks|none=>[]
def Gw(bO:List LO)(j:Nat):Option Nat:=match cR bO j with|some lo=>lo.dst|none=>none
def Cw(bO:List LO)(j:Nat):Bool:=match cR bO j with|some lo=>wJ lo.zD|none=>false
def km(bO:List LO)(j:Nat):Bool:=match cR bO j with|some lo=>qQ lo.zD|none=>false
def mE.hd:mE->List Nat
 | .nil=>[]
 | .cons i _ _=>[i]
 | .zS a b=>a.hd++b.hd
def E9(bO:List LO)(ms:List Nat)(n:Nat)(bf:List Nat)(i:Nat):Bool:=
 Nat.blt i n&& !(bf.contains i)&&
  ((m9 bO i).all fun t=>bf.all fun j=>!(cS bO t j)||lY ms i j)&&
  (match Gw bO i with|none=>true|some t=>bf.all fun j=>!(cS bO t j)&&(!((m9 bO j).contains t)||lY ms i j))
def Px(ms:List Nat)(n:Nat)(bf hd:List Nat):Bool:=(List.range n).all fun i=>bf.contains i||(hd.contains i||hd.any fun f=>lY ms i f)
def dD(bO:List LO)(ms:List Nat)(n:Nat):Bool->List Nat->mE->Bool
 |c,bf,.nil=>c&&(List.range n).all fun i=>bf.contains i
 |c,bf,.cons i none r=>c&&(E9 bO ms n bf i&&(km bO i&&dD bO ms n true (i::bf) r))
 |c,bf,.cons i (some l) r=>(!c||Px ms n bf [i])&&(E9 bO ms n bf i&&((bf.all fun j=>!(km bO j)||(lY ms i j||(Cw bO j||l.contains j)))&&dD bO ms n true (i::bf) r))
 |c,bf,.zS x y=>(!c||Px ms n bf (x.hd++y.hd))&&(dD bO ms n false bf x&&dD bO ms n false bf y)
def wK(fY:List (List Nat))(n:Nat):List Nat->List Nat->Bool
 |bf,[]=>(List.range n).all fun i=>bf.contains i
 |bf,i::r=>Nat.blt i n&&((cR fY i).getD []).all (fun j=>bf.contains j)&&wK fY n (i::bf) r
def R3(fY:List (List Nat))(n:Nat):Nat->List Nat->List Nat
 |0,_=>[]
 |k+1,bf=>match (List.range n).find? fun i=>!(bf.contains i)&&((cR fY i).getD []).all (fun j=>bf.contains j)with
  |some i=>i::R3 fY n k (i::bf)
  |none=>[]
def pu(bO:List LO)(fY:List (List Nat))(sched:mE):Bool:=
 wK fY bO.length [] (R3 fY bO.length bO.length [])&&dD bO (bm bO.length fY) bO.length true [] sched
def I1(bO:List LO)(ms:List Nat)(zV:List Nat)(done:List Nat)(i:Nat):Bool:=
 !(done.contains i)&&km bO i&&zV.all fun f=>done.contains f|| !(lY ms i f)
def Oj:List Nat->mE->mE
 | [],r=>r
 |i::l,r=>.cons i none (Oj l r)
def R5:List mE->mE
 | []=>.nil
 | [x]=>x
 |x::r=>.zS x (R5 r)
def Fa(bO:List LO)(ms:List Nat)(all zV:List Nat):Nat->List Nat->mE
 |0,_=>.nil
 |k+1,done=>
  let Vg:=all.filter (I1 bO ms zV done);let Ok:=Vg.reverse++done;let left:=zV.filter fun f=>!(done.contains f)
  Oj Vg (R5 ((left.filter fun f=>left.all fun g=>Nat.beq g f|| !(lY ms f g)).map fun f=>
   .cons f (some (Ok.filter fun j=>km bO j&& !(lY ms f j||Cw bO j))) (Fa bO ms all zV k (f::Ok))))
def Fb(bO:List LO)(fY:List (List Nat)):mE:=
 let ms:=bm bO.length fY;let all:=List.range bO.length;let zV:=all.filter fun i=>!(km bO i)
 Fa bO ms all zV (zV.length+1) []
def jF(md:Region.Mode)(ops:Array Oper):List (List Nat):=ops.toList.map fun o=>(o.after.toList.filter (Region.binds md)).map (·.on)
def tE(P:Program)(ops:Array Oper):List Region.Mode:=if(P.follows .mixedOrders|| !(Region.departs ops))=true then [.any]else [.text,.gc]
def tZ(P:Program)(bO:List LO)(ops:Array Oper):Option (List mE):=
 let ms:=tE P ops;let s:=Fb bO (jF .any ops)
 if(ms.all fun md=>pu bO (jF md ops) s)=true then some [s]
 else
  let ss:=ms.map fun md=>Fb bO (jF md ops)
  if(ms.all fun md=>ss.any fun s=>pu bO (jF md ops) s)=true then some ss else none
def dA(P:Program):Code->Option LC
 | .skip=>some .skip
 | .region _ ops true=>do
  let bO<-lA P ops ops.toList
  some (.bT bO (<-tZ P bO ops))
 | .region _ ops false=>do some (.ai (<-lA P ops ops.toList))
 | .seq a b=>do some (.seq (<-dA P a) (<-dA P b))
 | .cond x a b=>do some (.cond (<-bh x) (<-dA P a) (<-dA P b))
 | .block id b=>do some (.block id (<-dA P b))
 | .loop b=>do some (.loop (<-dA P b))
 | .exit id=>some (.exit id)
 | .ret=>some .ret
 | .rangeFunc f ps a c=>do
  match ps.toList with
  | [p]=>
   let la<-dA P a;let lc<-dA P c
   if(la.po&&lc.po)=true then some (.v7 (<-bh f) p la lc)else none
  |_=>none
 |_=>none
def na(P:Program):List ResultVar->Option (List Rv)
 | []=>some []
 | .tmp t::r=>do some (.tmp t::(<-na P r))
 | .cell a t::r=>do some (.cell (<-dU P t) (<-d9 P t) a::(<-na P r))
def bq(P:Program)(fn:Func):Option LF:=do
 some ⟨fn.ntmps,<-na P fn.results.toList,<-dA P (<-fn.body)⟩
inductive Ex where
 |normal
 |exit (id:Nat)
 |ret
def put(d:Option Nat)(v:CV)(e:List CV)(K:List CV->Prop):Prop:=
 match d with
 |none=>K e
 |some d=>fV v fun v=>hB (a7 e d v) K
def Fc(P:Program)(o:LO)(ih:(List CV->Mem->Prop)->List CV->Mem->Prop)(K:List CV->Mem->Prop)(e:List CV)(m:Mem):Prop:=
  match o.guard with
  |none=>step P o.zD e m fun v m'=>hB m' fun m'=>put o.dst v e fun e'=>ih K e' m'
  |some (s,iT)=>
   match jd e s with
   | .undef=>put o.dst .undef e fun e'=>ih K e' m
   | .rv (.one (.aa (.val (.bool t))))=>bB t
    (hB (a7 e s (aA true)) fun e=>match iT with
     |true=>step P o.zD e m fun v m'=>hB m' fun m'=>put o.dst v e fun e'=>ih K e' m'
     |false=>put o.dst .undef e fun e'=>ih K e' m)
    (hB (a7 e s (aA false)) fun e=>match iT with
     |false=>step P o.zD e m fun v m'=>hB m' fun m'=>put o.dst v e fun e'=>ih K e' m'
     |true=>put o.dst .undef e fun e'=>ih K e' m)
   |_=>False
def Gx(P:Program)(l:List LO):(List CV->Mem->Prop)->List CV->Mem->Prop:=
 @List.rec LO (fun _=>(List CV->Mem->Prop)->List CV->Mem->Prop) (fun K e m=>K e m) (fun o _ ih K e m=>Fc P o ih K e m) l
theorem wL{P:Program}{o:LO}{r:List LO}{K:List CV->Mem->Prop}{e:List CV}{m:Mem}:Gx P (o::r) K e m=Fc P o (Gx P r) K e m:=rfl
def mF(P:Program)(lo:LO)(e:List CV)(m:Mem)(K:List CV->CV->Mem->Prop):Prop:=
 match lo.guard with
 |none=>step P lo.zD e m fun v m'=>hB m' fun m'=>K e v m'
 |some (s,iT)=>match jd e s with
  | .undef=>K e .undef m
  | .rv (.one (.aa (.val (.bool t))))=>bB t
   (hB (a7 e s (aA true)) fun e=>match iT with
    |true=>step P lo.zD e m fun v m'=>hB m' fun m'=>K e v m'
    |false=>K e .undef m)
   (hB (a7 e s (aA false)) fun e=>match iT with
    |false=>step P lo.zD e m fun v m'=>hB m' fun m'=>K e v m'
    |true=>K e .undef m)
  |_=>False
def t6(j:Nat):List (Nat×LO×List CV×CV)->Option (LO×List CV×CV)
 | []=>none
 |(i,x)::r=>match Nat.beq i j with|true=>some x|false=>t6 j r
def R6(P:Program)(m:Mem)(dF:List (Nat×LO×List CV×CV))(l:List Nat):Prop:=
 @List.rec Nat (fun _=>Prop) True (fun j _ ih=>(ok (t6 j dF) fun x=>mF P x.1 x.2.1 m fun _ v _=>v=x.2.2)/\ih) l
theorem I2{P:Program}{m:Mem}{dF:List (Nat×LO×List CV×CV)}{j:Nat}{r:List Nat}:R6 P m dF (j::r)=((ok (t6 j dF) fun x=>mF P x.1 x.2.1 m fun _ v _=>v=x.2.2)/\R6 P m dF r):=rfl
def Fd(P:Program)(bO:List LO)(i:Nat)(IU:Option (List Nat))(ih:List (Nat×LO×List CV×CV)->(List CV->Mem->Prop)->List CV->Mem->Prop)(dF:List (Nat×LO×List CV×CV))(K:List CV->Mem->Prop)(e:List CV)(m:Mem):Prop:=
 ok (cR bO i) fun lo=>mF P lo e m fun e1 v m'=>put lo.dst v e1 fun e'=>
  match IU with
  |none=>ih ((i,lo,e,v)::dF) K e' m'
  |some l=>R6 P m' dF l/\ih dF K e' m'
def t7(P:Program)(bO:List LO)(VY:mE):List (Nat×LO×List CV×CV)->(List CV->Mem->Prop)->List CV->Mem->Prop:=
 @mE.rec (fun _=>List (Nat×LO×List CV×CV)->(List CV->Mem->Prop)->List CV->Mem->Prop) (fun _ K e m=>K e m)
  (fun i IU _ ih dF K e m=>Fd P bO i IU ih dF K e m) (fun _ _ Py Pz dF K e m=>Py dF K e m/\Pz dF K e m) VY
theorem wM{P:Program}{bO:List LO}{i:Nat}{IU:Option (List Nat)}{r:mE}{dF:List (Nat×LO×List CV×CV)}{K:List CV->Mem->Prop}{e:List CV}{m:Mem}:
  t7 P bO (.cons i IU r) dF K e m=Fd P bO i IU (t7 P bO r) dF K e m:=rfl
theorem I3{P:Program}{bO:List LO}{a b:mE}{dF:List (Nat×LO×List CV×CV)}{K:List CV->Mem->Prop}{e:List CV}{m:Mem}:
  t7 P bO (.zS a b) dF K e m=(t7 P bO a dF K e m/\t7 P bO b dF K e m):=rfl
def PA(x:X)(v:CV)(e:List CV):List CV:=
 match x with
 | .t n=>a7 e n v
 | .c _=>e
def lB:Nat->List (Nat×CV)->List CV
 |n,as=>go n as (fI n .aq)
 where go:Nat->List (Nat×CV)->List CV->List CV
 |_,[],e=>e
 |n,(s,v)::r,e=>a7 (go n r e) s v
inductive lC:Mem->Mem->Prop
 |nil (m:Mem):lC m []
 |cons {b b':Bk} {m m':Mem} (h:b'=b\/b'= .aZ) (hm:lC m m'):lC (b::m) (b'::m')
def CC.df(n:Nat):CC->Prop
 | .ptr id _=>id<n
 | .lW id _ _ _=>id<n
 | .row id _ _ _=>id<n
 | .map id=>id<n
 | .fn _ dN=>∀id,id∈dN->id<n
 |_=>True
def RV.df(n:Nat):RV->Prop
 | .one c=>c.df n
 | .agg cs=>∀c,c∈cs->c.df n
def CV.df(n:Nat):CV->Prop
 | .rv r=>r.df n
 | .bG rs=>∀r,r∈rs->r.df n
 |_=>True
def Bk.df(n:Nat):Bk->Prop
 | .aZ=>True
 | .var cs=>∀c,c∈cs->c.df n
 | .row _ elems=>∀cs,cs∈elems->∀c,c∈cs->c.df n
 | .mp es=>∀e,e∈es->e.val.df n
 | .it _ _=>True
structure I4(n0:Nat)(s s':St):Prop where
 n0:n0<=s'.mem.length
 len:s'.aU.length=s.aU.length
 aU:∀(i:Nat)v,s'.aU[i]? =some v->v= .aq\/(s.aU[i]? =some v/\(s'.mem.length=s.mem.length\/v.df s'.mem.length))
 mem:lC s.mem s'.mem
 iZ:s'.mem.length=s.mem.length\/∀b,b∈s'.mem->b.df s'.mem.length
structure PB(n0:Nat)(ρ:bH)(m:Mem)(ρ':bH)(m':Mem):Prop where
 aO:∀id,id<n0->ρ'.aO (.ap id)=ρ.aO (.ap id)
 S:∀b,ρ.S b->ρ'.S b
 S':∀b,ρ'.S b->ρ.S b\/∃k,Live ρ m k/\(ρ.aO k).b=b
 a8:∀k,Live ρ' m' k->∃k0,Live ρ m k0/\(ρ.aO k0).b=(ρ'.aO k).b
structure View(n0:Nat)(s s':St):Prop where
 hn:n0<=s'.mem.length
 len:s'.aU.length=s.aU.length
 go:∀(ρ:bH)(w:World),aC ρ s.mem w->∃ρ',aC ρ' s'.mem w/\PB n0 ρ s.mem ρ' s'.mem/\∀(i:Nat)c',s'.aU[i]? =some c'->∃c,s.aU[i]? =some c/\∀v,bW ρ w c v->bW ρ' w c' v
def PC(f:(Ex->St->Prop)->St->Prop)(K:Ex->St->Prop)(ex:Ex)(s:St):Prop:=
 match ex with
 | .normal=>f K s
 | .exit id=>K (.exit id) s
 | .ret=>K .ret s
def Cx(id:Nat)(K:Ex->St->Prop)(ex:Ex)(s:St):Prop:=
 match ex with
 | .normal=>K .normal s
 | .exit i3=>bB (Nat.beq i3 id) (K .normal s) (K (.exit i3) s)
 | .ret=>K .ret s
def Fe(n0:Nat){α:Type}(J:α->Prop)(S:α->St)(μ:α->Nat)(n:Nat)(K:Ex->St->Prop)(ex:Ex)(s:St):Prop:=
 match ex with
 | .normal=>∃a,J a/\μ a<n/\View n0 s (S a)
 | .exit id=>K (.exit id) s
 | .ret=>K .ret s
def Gy(K:Ex->St->Prop)(e:List CV)(m:Mem):Prop:=K .normal ⟨e,m⟩
def ov:Mem->List Nat->Mem
 |m,[]=>m
 |m,id::r=>ov (a7 m id .aZ) r
def x7(m:Mem):List Nat->List Value->Prop
 | [],[]=>True
 |id::r,v::vs=>(cR m id=some (.var [.aa (.val v)])/\cI v=true)/\x7 m r vs
 |_,_=>False
def pw(as:List (Nat×Nat)):List Value:=as.map fun a=>Value.pointer (some ⟨a.1,a.2,none⟩)
def Ol(P:Program)(l:Nat)(args:Array Value)(W:World)(R:Ending->World->Prop):Prop:=
 ∃fn tmps assign body,(Instr.yield l args).run P W= .ok (.round l fn tmps assign body) W/\RoundIn Fence.wide 0 P l fn tmps assign body W R
def R7(P:Program)(gf:Nat)(cs:List Value)(xs:List ByteArray):Prop:=
 (∃fn,P.funcs[gf]? =some fn/\fn.body.isSome=true/\(fn.name== "runtime.NumGoroutine")=false)/\
 ∀(l:Nat)(as:List (Nat×Nat))(W:World)(J:Nat->World->Prop)(Jx:World->Prop),as.length=cs.length->(as.map (·.1)).Nodup->
  (∀(i:Nat)a v,as[i]? =some a->cs[i]? =some v->W.cell? ⟨a.1,a.2,none⟩=some v/\W.frozen? ⟨a.1,a.2,none⟩=false)->
  (∀k W W',J k W->W.heap.size<=W'.heap.size->(∀b,b<W.heap.size->(∀a,a∈as->b≠a.1)->W'.heap[b]? =W.heap[b]?)->W'.os=W.os->W'.tape=W.tape->W'.output=W.output->J k W')->
  (∀W W',Jx W->W.heap.size<=W'.heap.size->(∀b,b<W.heap.size->(∀a,a∈as->b≠a.1)->W'.heap[b]? =W.heap[b]?)->W'.os=W.os->W'.tape=W.tape->W'.output=W.output->Jx W')->
  (∀k y W,xs[k]? =some y->J k W->Ol P l #[.string y] W fun e W'=>
   (e= .returned (.bool true)/\J (k+1) W'/\W.heap.size<=W'.heap.size/\∀a,a∈as->W'.heap[a.1]? =W.heap[a.1]?)\/(e= .returned (.bool false)/\Jx W'))->
  J 0 W->
  CallsIn Fence.wide 0 P gf (#[.func (.yield l) #[] #[]]++(pw as).toArray) W fun e W'=>(∃v,e= .returned v)/\(J xs.length W'\/Jx W')
def VZ(n0:Nat){α:Type}(J:Nat->α->Prop)(S:α->St)(k:Nat)(aU:List CV)(K:Ex->St->Prop)(ex:Ex)(s:St):Prop:=
 match ex with
 | .normal=>∃a,J (k+1) a/\View n0 ⟨aU,s.mem⟩ (S a)
 | .exit id=>K (.exit id) ⟨aU,s.mem⟩
 | .ret=>K .ret ⟨aU,s.mem⟩
def My(P:Program)(bO:List LO)(K:Ex->St->Prop)(s:St):List mE->Prop
 | []=>True
 | [x]=>t7 P bO x [] (Gy K) s.aU s.mem
 |x::y::r=>t7 P bO x [] (Gy K) s.aU s.mem/\My P bO K s (y::r)
def aw(P:Program)(n0:Nat):LC->(Ex->St->Prop)->St->Prop
 | .skip,K,s=>K .normal s
 | .ai ops,K,s=>Gx P ops (Gy K) s.aU s.mem
 | .bT bO oI,K,s=>My P bO K s oI
 | .seq a b,K,s=>aw P n0 a (PC (aw P n0 b) K) s
 | .cond x a b,K,s=>match x.ev s.aU with
  | .rv (.one (.aa (.val (.bool t))))=>bB t
   (hB (PA x (aA true) s.aU) fun e=>aw P n0 a K ⟨e,s.mem⟩)
   (hB (PA x (aA false) s.aU) fun e=>aw P n0 b K ⟨e,s.mem⟩)
  |_=>False
 | .block id b,K,s=>aw P n0 b (Cx id K) s
 | .loop b,K,s=>∃(α:Type)(J:α->Prop)(S:α->St)(μ:α->Nat),(∃a,J a/\View n0 s (S a))/\∀a,J a->aw P n0 b (Fe n0 J S μ (μ a) K) (S a)
 | .exit id,K,s=>K (.exit id) s
 | .ret,K,s=>K .ret s
 | .cL a,K,s=>∃s',View n0 s s'/\aw P n0 a K s'
 | .v7 x p la lb,K,s=>∃(gf:Nat)(iZ:List Nat)(cs:List Value)(xs:List ByteArray)(α:Type)(J:Nat->α->Prop)(S:α->St),
   x.ev s.aU= .rv (.one (.fn gf iZ))/\x7 s.mem iZ cs/\(iZ.Nodup/\iZ≠[])/\R7 P gf cs xs/\(∃a,J 0 a/\View n0 ⟨s.aU,ov s.mem iZ⟩ (S a))/\
   (∀k y a,xs[k]? =some y->J k a->oJ (S a).mem fun n1=>aw P n1 la (fun ex s2=>match ex with
    | .normal=>oJ s2.mem fun n2=>aw P n2 lb (VZ n0 J S k (S a).aU K) s2
    |_=>False) ⟨a7 (S a).aU p (dk y),(S a).mem⟩)/\
   ∀a,J xs.length a->K .normal (S a)
def zW(P:Program)(s:St):List Rv->(List RV->Prop)->Prop
 | [],K=>K []
 | .tmp t::r,K=>ok (Cr (jd s.aU t)) fun v=>zW P s r fun vs=>K (v::vs)
 | .cell agg n t::r,K=>tU s.aU s.mem agg n (jd s.aU t) fun v=>ok (Cr v) fun v=>zW P s r fun vs=>K (v::vs)
def PD:List RV->CV
 | [r]=>.rv r
 |rs=>.bG rs
def nb(P:Program)(ki:List Rv)(K:CV->Mem->Prop)(ex:Ex)(s:St):Prop:=
 match ex with
 | .exit _=>False
 |_=>zW P s ki fun vs=>K (PD vs) s.mem
def body(P:Program)(lf:LF)(args:List CV)(m:Mem)(K:CV->Mem->Prop):Prop:=
 hB (gX args (fI (lf.n-args.length) .undef)) fun e=>oJ m fun n0=>aw P n0 lf.code (nb P lf.ki K) ⟨e,m⟩
abbrev qm(d s:Nat):LO:=⟨some d,.aD (.t s),none⟩
abbrev qu(d:Nat)(i:I):LO:=⟨some d,i,none⟩
abbrev qw(i:I):LO:=⟨none,i,none⟩
abbrev qg(d:Nat)(i:I)(s:Nat)(b:Bool):LO:=⟨some d,i,some (s,b)⟩
abbrev qf(d k s:Nat):LO:=⟨some d,.bQ k (.t s),none⟩
abbrev ql(d s:Nat):LO:=⟨some d,.load false 1 (.t s),none⟩
abbrev qL(d n s:Nat):LO:=⟨some d,.load true n (.t s),none⟩
abbrev qi(n:Int):X:= .c (.rv (.one (.aa (.val (.int .i64 n)))))
abbrev qb(b:Bool):X:= .c (.rv (.one (.aa (.val (.bool b)))))
abbrev qe:X:= .c (.rv (.one .aB))
abbrev qd(n:Int):CC:= .aa (.val (.int .i64 n))
abbrev qc(f:Nat)(a:List X):I:= .call (.c (.rv (.one (.fn f [])))) a
instance(n:Nat):OfNat X n:=⟨.t n⟩
end Go.AM
