/- Part 2 of 16. -/
import Derived.Test.YtodckkkbiidffaaGreatDoorJ01
import Derived.Laws.BytesArg
import Derived.RangeFuncLeaves
import Derived.RangeFuncRecord
set_option linter.unusedVariables false
set_option linter.unusedSimpArgs false
set_option maxRecDepth 100000
set_option maxHeartbeats 0
namespace Go.AM
inductive X where
 |t (n:Nat)
 |c (v:CV)
inductive Kd where
 |b
 |i
 |s
inductive Ky where
 |i (k:IntKind)
 |s
 |b
 |a2 (k:IntKind)
inductive I where
 |aN (x:X)
 |pick (c a b:X)
 |alloc (z:List CC)
 |box (x:X)
 |build (z:List CC) (parts:List (Nat×Nat×X))
 |nI (esz:Nat) (z:List CC) (len:Nat) (parts:List (Nat×X))
 |load (agg:Bool) (n:Nat) (a:X)
 |store (n:Nat) (a x:X)
 |bY (off:Nat) (a:X)
 |Wl (agg:Bool) (off n:Nat) (a:X)
 |cw (esz:Nat) (a i:X)
 |Cz (len esz:Nat) (a i:X)
 |CA (a i:X)
 |aL (op:BinOp) (x y:X)
 |PY (neg:Bool) (ks:List Kd) (x y:X)
 |beq (neg:Bool) (x y:X)
 |un (op:UnOp) (x:X)
 |conv (k:IntKind) (x:X)
 |Wm (x:X)
 |Wn (x:X)
 |VO (x:X)
 |oI (esz:Nat) (x:X) (lo hi mx:Option X)
 |I6 (x:X) (lo hi:Option X)
 |fn (f:Nat) (eM:List X)
 |len (k:Nat) (x:X)
 |oL (esz bytes:Nat) (dst src:X)
 |call (f:X) (args:List X)
 |ext (x:X) (i:Nat)
 |aR (x:X)
 |yM (neg:Bool) (x:X)
 |rM
 |pL (esz bytes:Nat) (z:List CC) (n c:X)
 |yN (z:RV) (kk:Ky) (m k:X) (ok:Bool)
 |tz (kk:Ky) (m k v:X)
 |ko (mx:Bool) (xs:List X)
 |L5 (kk:Ky) (m k:X)
 |copy (esz:Nat) (dst src:X)
 |VP (esz:Nat) (z:List CC) (x:X)
 |L6 (agg:Bool) (n sz:Nat) (x i:X)
 |Zn (x:X)
 |Wo (x:X)
 |tu (x:X)
 |Wp (x:X)
structure LO where
 dst:Option Nat
 Co:I
 guard:Option (Nat×Bool)
inductive nG where
 |nil
 |cons (i:Nat) (L7:Option (List Nat)) (r:nG)
 |wm (a b:nG)
inductive LC where
 |skip
 |ai (ops:List LO)
 |bV (bZ:List LO) (qM:List nG)
 |seq (a b:LC)
 |cond (x:X) (a b:LC)
 |block (id:Nat) (b:LC)
 |loop (b:LC)
 |exit (id:Nat)
 |ret
 |cX (a:LC)
 |yO (x:X) (p:Nat) (a b:LC)
def LC.er:LC->LC
 | .seq a b=>.seq a.er b.er
 | .cond x a b=>.cond x a.er b.er
 | .block id b=>.block id b.er
 | .loop b=>.loop b.er
 | .cX a=>a.er
 | .yO x p a b=>.yO x p a.er b.er
 | .skip=>.skip
 | .ai ops=>.ai ops
 | .bV a b=>.bV a b
 | .exit id=>.exit id
 | .ret=>.ret
def LC.rN:LC->Bool
 | .seq a b=>a.rN&&b.rN
 | .cond _ a b=>a.rN&&b.rN
 | .block _ b=>b.rN
 | .loop b=>b.rN
 | .cX a=>a.rN
 | .yO _ _ _ _=>false
 |_=>true
inductive Rv where
 |tmp (t:Nat)
 |cell (agg:Bool) (n:Nat) (t:Nat)
structure LF where
 n:Nat
 me:List Rv
 code:LC
def LF.er(f:LF):LF:=⟨f.n,f.me,f.code.er⟩
def cF{α:Type}:List α->Nat->Option α
 | [],_=>none
 |x::_,0=>some x
 |_::r,k+1=>cF r k
def aX{α:Type}:List α->Nat->α->List α
 | [],_,_=>[]
 |_::r,0,y=>y::r
 |x::r,k+1,y=>x::aX r k y
def jo{α:Type}{β:Sort _}:List α->(List α->β)->β
 | [],k=>k []
 |x::r,k=>jo r λr'=>k (x::r')
def kP:List CV->Nat->CV
 | [],_=>.aH
 |x::_,0=>x
 |_::r,k+1=>kP r k
def X.ev(e:List CV):X->CV
 | .t n=>kP e n
 | .c v=>v
def ok{α:Type}(o:Option α)(K:α->Prop):Prop:= @Option.rec α (λ_=>Prop) False K o
def bB(t:Bool)(A B:Prop):Prop:= @Bool.rec (λ_=>Prop) B A t
def jp:List CC->Nat->Nat->Option (List CC)
 |_,0,0=>some []
 | [],_,_=>none
 |c::cs,0,n+1=>match jp cs 0 n with|some l=>some (c::l)|none=>none
 |_::cs,j+1,n=>jp cs j n
def gY:List CC->Nat->List CC->Option (List CC)
 |cs,0,[]=>some cs
 | [],_,_=>none
 |_::cs,0,x::xs=>match gY cs 0 xs with|some l=>some (x::l)|none=>none
 |c::cs,j+1,xs=>match gY cs j xs with|some l=>some (c::l)|none=>none
def wn:List Dt->Nat->Option (List CC)
 |_,0=>some []
 | [],_+1=>none
 |d::ds,n+1=>match wn ds n with|some l=>some (.ah d::l)|none=>none
def cellsOf:CV->Option (List CC)
 | .rv (.one c)=>some [c]
 | .rv (.agg cs)=>some cs
 |_=>none
def CB:CV->Option RV
 | .rv r=>some r
 |_=>none
def L8(agg:Bool)(l:List CC):Option CV:=
 match agg,l with
 |true,l=>some (.rv (.agg l))
 |false,[c]=>some (.rv (.one c))
 |false,_=>none
def jq:List CC->Bool
 | []=>true
 | .ei _ _::_=>false
 |_::r=>jq r
def dA{α:Type}(l:List α):Int->Option α
 | .ofNat k=>cF l k
 | .negSucc _=>none
def d5(n:Int)(len:Nat):Option Nat:=
 match n with
 | .ofNat k=>match Nat.blt k len with|true=>some k|false=>none
 | .negSucc _=>none
def iN(a b:Nat):Nat:=match a with|0=>b|a=>a+b
def lenOf(elems:Nat)(lo:Nat)(hi:Option Nat):Nat:=
 match lo,hi with
 |0,none=>elems
 |0,some h=>h
 |lo,none=>elems-lo
 |lo,some h=>h-lo
def b7{α:Type}(l:List α)(lo:Nat)(hi:Option Nat):List α:=
 match lo,hi with
 |0,none=>l
 |0,some h=>l.take h
 |lo,none=>l.drop lo
 |lo,some h=>(l.take h).drop lo
def oM(e:List CV):List CC->List (Nat×Nat×X)->Option (List CC)
 |z,[]=>some z
 |z,(off,sz,x)::r=>match cellsOf (x.ev e)with
  |some cs=>match Nat.beq cs.length sz with
   |true=>match gY z off cs with
    |some z'=>oM e z' r
    |none=>none
   |false=>none
  |none=>none
def uQ(e:List CV)(esz:Nat):List (List CC)->List (Nat×X)->Option (List (List CC))
 |z,[]=>some z
 |z,(i,x)::r=>match cellsOf (x.ev e)with
  |some cs=>match Nat.beq cs.length esz&&Nat.blt i z.length with
   |true=>uQ e esz (aX z i cs) r
   |false=>none
  |none=>none
def gH{α:Type}:Nat->α->List α
 |0,_=>[]
 |n+1,x=>x::gH n x
def Hx(e:List CV):List X->List CV
 | []=>[]
 |x::r=>x.ev e::Hx e r
def wo:List CV->Option (List Nat)
 | []=>some []
 | .rv (.one (.ptr id 0))::r=>match wo r with|some l=>some (id::l)|none=>none
 |_=>none
def vY:List Nat->List CV
 | []=>[]
 |id::r=>.rv (.one (.ptr id 0))::vY r
def gI{α:Type}:List α->List α->List α
 | [],l=>l
 |x::r,l=>x::gI r l
def wq{β:Sort _}(m0:Mem):Mem->List Nat->(Nat->β)->β
 | [],n::_,k=>k n
 |_::r,_::ls,k=>wq m0 r ls k
 |_,[],k=>k m0.length
def nJ{β:Sort _}(m:Mem)(k:Nat->β):β:=
 wq m m [0,1,2,3,4,5,6,7,8,9,10,11,12,13,14,15,16,17,18,19,20,21,22,23,24,25,26,27,28,29,30,31,32,33,34,35,36,37,38,39,40,41,42,43,44,45,46,47,48,49,50,51,52,53,54,55,56,57,58,59,60,61,62,63] k
def an(k:IntKind)(n:Int):CV:= .rv (.one (.ah (.val (.int k n))))
def aF(b:Bool):CV:= .rv (.one (.ah (.val (.bool b))))
def fe(s:ByteArray):CV:= .rv (.one (.ah (.val (.string s))))
def I7(op:BinOp):Value->Value->Option Value
 | .int k a,.int k' b=>
  match op with
  | .shl=>match decide (b<0)with|false=>some (.int k (k.wrap (a*2^(min b.toNat k.bits))))|true=>none
  | .shr=>match decide (b<0)with|false=>some (.int k (a.fdiv (2^(min b.toNat k.bits))))|true=>none
  |op=>match decide (k=k')with
   |false=>none
   |true=>match op with
    | .add=>some (.int k (k.wrap (a+b)))
    | .sub=>some (.int k (k.wrap (a-b)))
    | .mul=>some (.int k (k.wrap (a*b)))
    | .quo=>match decide (b=0)with|false=>some (.int k (k.wrap (a.tdiv b)))|true=>none
    | .rem=>match decide (b=0)with|false=>some (.int k (a.tmod b))|true=>none
    | .and=>some (.int k (k.wrap (BitVec.ofInt k.bits a&&&BitVec.ofInt k.bits b).toNat))
    | .or=>some (.int k (k.wrap (BitVec.ofInt k.bits a|||BitVec.ofInt k.bits b).toNat))
    | .xor=>some (.int k (k.wrap (BitVec.ofInt k.bits a^^^BitVec.ofInt k.bits b).toNat))
    | .andNot=>some (.int k (k.wrap (BitVec.ofInt k.bits a&&& ~~~ BitVec.ofInt k.bits b).toNat))
    | .eql=>some (.bool (a==b))
    | .neq=>some (.bool (a !=b))
    | .lss=>some (.bool (decide (a<b)))
    | .leq=>some (.bool (decide (a<=b)))
    | .gtr=>some (.bool (decide (a>b)))
    | .geq=>some (.bool (decide (a>=b)))
    |_=>none
 | .string a,.string b=>
  match op with
  | .add=>match decide (((a.size+b.size:Nat):Int)>IntKind.i64.max)with|false=>some (.string (a++b))|true=>none
  | .eql=>some (.bool (a.toList==b.toList))
  | .neq=>some (.bool (!(a.toList==b.toList)))
  | .lss=>some (.bool (Op.bytesLess a.toList b.toList))
  | .leq=>some (.bool (Op.bytesLess a.toList b.toList||a.toList==b.toList))
  | .gtr=>some (.bool (!(Op.bytesLess a.toList b.toList||a.toList==b.toList)))
  | .geq=>some (.bool (!(Op.bytesLess a.toList b.toList)))
  |_=>none
 |_,_=>none
def Zo(op:UnOp):Value->Option Value
 | .bool b=>match op with| .not=>some (.bool (!b))|_=>none
 | .int k n=>match op with| .neg=>some (.int k (k.wrap (0-n)))|_=>none
 |_=>none
def PZ:Kd->Value->Value->Option Bool
 | .i,.int k a,.int k' b=>match decide (k=k')with|true=>some (a==b)|false=>none
 | .s,.string a,.string b=>some (a.toList==b.toList)
 | .b,.bool a,.bool b=>some (a==b)
 |_,_,_=>none
def kQ:List Kd->List CC->List CC->Option Bool
 | [],[],[]=>some true
 |k::ks,.ah (.val a)::r,.ah (.val b)::s=>match PZ k a b,kQ ks r s with
  |some x,some y=>some (x&&y)
  |_,_=>none
 |_,_,_=>none
def aq(P:Program)(f:Nat)(args:List CV)(m:Mem)(K:CV->Mem->Prop):Prop:=
 (∃fn,P.funcs[f]? =some fn/\fn.body.isSome=true/\(fn.name== "runtime.NumGoroutine")=false)/\
 ∀(ρ:bJ)(w:World)(vs:List Value),aA ρ m w->vs.length=args.length->(∀(i:Nat)c,args[i]? =some c->∃v,vs[i]? =some v/\cf ρ w c v)->
  Calls P f vs.toArray w λe w'=>∃v r m' U',e= .returned v/\K r m'/\aA U' m' w'/\cf U' w' r v/\Ext ρ m w U' m' w'
def fV{β:Sort _}(v:CV)(k:CV->β):β:=
 match v with
 | .aH=>k .aH
 | .undef=>k .undef
 | .rv r=>match r with
  | .one c=>k (.rv (.one c))
  | .agg cs=>jo cs λcs=>k (.rv (.agg cs))
 | .bx rs=>k (.bx rs)
def Wq:List Value->List Value->Option Bool
 | [.int k x,.int l y],[.int k' x',.int l' y']=>match decide (k=k')&&decide (l=l')with|true=>some (x==x'&&y==y')|false=>none
 |_,_=>none
def tC:List CC->Option Value
 | [.ah (.val (.int k x)),.ah (.val (.int l y))]=>some (.agg #[.int k x,.int l y])
 |_=>none
def gz(a b:Value):Option Bool:=
 match a,b with
 | .int k x,.int k' y=>match decide (k=k')with|true=>some (x==y)|false=>none
 | .string x,.string y=>some (x==y)
 | .bool x,.bool y=>some (x==y)
 | .agg x,.agg y=>Wq x.toList y.toList
 |_,_=>none
def oh(k:Value):List ME->Option (Option RV)
 | []=>some none
 |e::es=>match gz k e.key with
  |some true=>some (some e.val)
  |some false=>oh k es
  |none=>none
def wt(k:Value)(v:RV):List ME->Option (List ME)
 | []=>some [⟨k,v⟩]
 |e::es=>match gz k e.key with
  |some true=>some (⟨k,v⟩::es)
  |some false=>match wt k v es with|some l=>some (e::l)|none=>none
  |none=>none
def iV(k:Value):List MO->Nat->Option (Option (Nat×MV))
 | [],_=>some none
 |e::es,n=>match gz k e.key with
  |some true=>some (some (n,e.val))
  |some false=>iV k es (n+1)
  |none=>none
def mU(k:Value)(v:MV):List MO->Option (List MO)
 | []=>some [⟨k,v⟩]
 |e::es=>match gz k e.key with
  |some true=>some (⟨k,v⟩::es)
  |some false=>match mU k v es with|some l=>some (e::l)|none=>none
  |none=>none
def wu(e:List CV)(m:Mem)(agg:Bool)(n:Nat)(a:CV)(K:CV->Prop):Prop:=
 match a with
 | .rv (.one (.ptr id j))=>ok (cF m id) λbk=>match bk with
  | .var cs=>ok (jp cs j n) λl=>ok (L8 agg l) K
  |_=>False
 | .rv (.one (.nH id esz i j))=>ok (cF m id) λbk=>match bk with
  | .row oN elems=>bB (Nat.beq esz oN) (ok (cF elems i) λcells=>ok (jp cells j n) λl=>bB (jq l) (ok (L8 agg l) K) False) False
  |_=>False
 | .rv (.one (.rK ds))=>ok (wn ds n) λl=>ok (L8 agg l) K
 |_=>False
def fH(m:Mem)(esz:Nat)(v:CV):Option (List (List CC)):=
 match v with
 | .rv (.one (.ah (.sl e elems)))=>match Nat.beq e esz with
  |true=>some (elems.map λds=>ds.map .ah)
  |false=>none
 | .rv (.one (.row id e lo hi))=>match cF m id with
  |some (.row e2 rows)=>match Nat.beq e esz,Nat.beq e2 esz with
   |true,true=>some (b7 rows lo hi)
   |_,_=>none
  |_=>none
 | .rv (.one .aM)=>some []
 |_=>none
def jk(m:Mem)(v:CV):Mem:=
 match v with
 | .rv (.one (.row id _ _ _))=>aX m id .aU
 |_=>m
def wv(v:CV):Bool:=
 match v with
 | .rv (.one (.row _ _ _ _))=>true
 | .rv (.one .aM)=>true
 |_=>false
def Hy(a b:CV):Bool:=
 match a,b with
 | .rv (.one (.row i _ _ _)),.rv (.one (.row j _ _ _))=>!(Nat.beq i j)
 |_,_=>true
def CC.jq:CC->Bool
 | .ei _ _=>false
 |_=>true
def qN:List CC->Bool
 | []=>true
 |c::r=>c.jq&&qN r
def fJ:List (List CC)->Bool
 | []=>true
 |c::r=>qN c&&fJ r
def cV{α:Type}(l:List α)(h:Nat)(E:List α):List α:=l.take h++(E++l.drop (h+E.length))
def qQ(hi:Option Nat)(n:Nat):Nat:=match hi with|some h=>h|none=>n
def qS(v:CV):Option Nat:=
 match v with
 | .rv (.one (.ah (.val (.int _ (.ofNat k)))))=>some k
 |_=>none
def lq(e:List CV)(o:Option X)(d:Nat):Option Nat:=
 match o with
 |none=>some d
 |some x=>qS (x.ev e)
def Zp(v:CV):Bool:=
 match v with
 | .rv (.one (.ah (.val (.int _ n))))=>decide (n=0)
 |_=>false
def E6(e:List CV)(o:Option X):Bool:=
 match o with
 |none=>false
 |some x=>Zp (x.ev e)
def L9(v:CV):Bool:=
 match v with
 | .rv (.one (.ah (.sl _ _)))=>true
 | .rv (.one (.row _ _ _ _))=>true
 | .rv (.one .aM)=>true
 |_=>false
def ww:List (List CC)->Option (List Int)
 | []=>some []
 | [.ah (.val (.int .u8 n))]::r=>match ww r with|some l=>some (n::l)|none=>none
 |_=>none
def qT(s:ByteArray):List (List CC):=s.data.toList.map λb=>[.ah (.val (.int .u8 b.toNat))]
def HA(m:Mem)(v:CV):Option (List ME):=
 match v with
 | .rv (.one (.map id))=>match cF m id with|some (.mp es)=>some es|_=>none
 | .rv (.one (.ah (.val (.map none))))=>some []
 |_=>none
def TS(m:Mem)(v:CV):Option (Nat×Nat×List MO×Option (List Nat×Nat)):=
 match v with
 | .rv (.one (.map id))=>match cF m id with|some (.mo esz es so)=>some (id,esz,es,so)|_=>none
 |_=>none
def kR:Ky->Value->Bool
 | .i k,.int k' _=>decide (k'=k)
 | .s,.string _=>true
 | .b,.bool _=>true
 | .a2 k,.agg x=>match x.toList with| [.int k1 _,.int k2 _]=>decide (k1=k)&&decide (k2=k)|_=>false
 |_,_=>false
def uR(okF:Bool)(z:RV)(o:Option RV):CV:=
 match okF,o with
 |false,none=>.rv z
 |false,some v=>.rv v
 |true,none=>.bx [z,.one (.ah (.val (.bool false)))]
 |true,some v=>.bx [v,.one (.ah (.val (.bool true)))]
def rO:List ME->Option (List (Value×Value))
 | []=>some []
 |⟨k,.one (.ah (.val v))⟩::r=>match cu k&&cu v with
  |true=>(rO r).map ((k,v):: ·)
  |false=>none
 |_=>none
def step(P:Program)(i:I)(e:List CV)(m:Mem)(K:CV->Mem->Prop):Prop:=
 match i with
 | .aN x=>K (x.ev e) m
 | .pick c a b=>match c.ev e with
  | .rv (.one (.ah (.val (.bool t))))=>bB t (K (a.ev e) m) (K (b.ev e) m)
  |_=>False
 | .alloc z=>nJ m λn=>K (.rv (.one (.ptr n 0))) (gI m [.var z])
 | .box x=>ok (cellsOf (x.ev e)) λcs=>nJ m λn=>K (.rv (.one (.ptr n 0))) (gI m [.var cs])
 | .build z ps=>ok (oM e z ps) λcs=>K (.rv (.agg cs)) m
 | .nI esz z len ps=>ok (uQ e esz (gH len z) ps) λrows=>jo rows λrows=>nJ m λn=>K (.rv (.one (.row n esz 0 none))) (gI m [.row esz rows])
 | .load agg n a=>wu e m agg n (a.ev e) λv=>K v m
 | .store n a x=>ok (cellsOf (x.ev e)) λxs=>bB (Nat.beq xs.length n) (match a.ev e with
  | .rv (.one (.ptr id j))=>ok (cF m id) λbk=>match bk with
   | .var cs=>ok (gY cs j xs) λfk=>K .undef (aX m id (.var fk))
   |_=>False
  | .rv (.one (.nH id esz i j))=>ok (cF m id) λbk=>match bk with
   | .row oN elems=>bB (Nat.beq esz oN) (ok (cF elems i) λcells=>bB (jq cells) (ok (gY cells j xs) λfB=>K .undef (aX m id (.row oN (aX elems i fB)))) False) False
   |_=>False
  |_=>False) False
 | .bY off a=>match a.ev e with
  | .rv (.one (.ptr id j))=>K (.rv (.one (.ptr id (j+off)))) m
  | .rv (.one (.nH id esz i j))=>K (.rv (.one (.nH id esz i (j+off)))) m
  | .rv (.one (.rK ds))=>K (.rv (.one (.rK (ds.drop off)))) m
  |_=>False
 | .Wl agg off n a=>match a.ev e with
  | .rv (.agg cs)=>ok (jp cs off n) λl=>ok (L8 agg l) λv=>K v m
  |_=>False
 | .cw esz a i=>match i.ev e with
  | .rv (.one (.ah (.val (.int _ n))))=>match a.ev e with
   | .rv (.one (.ah (.sl oN elems)))=>bB (Nat.beq esz oN) (ok (dA elems n) λds=>K (.rv (.one (.rK ds))) m) False
   | .rv (.one (.row id oN lo hi))=>ok (cF m id) λbk=>match bk with
    | .row rP elems=>bB (Nat.beq esz oN) (bB (Nat.beq esz rP) (ok (d5 n (lenOf elems.length lo hi)) λk=>K (.rv (.one (.nH id esz (iN lo k) 0))) m) False) False
    |_=>False
   |_=>False
  |_=>False
 | .Cz len esz a i=>match i.ev e with
  | .rv (.one (.ah (.val (.int _ n))))=>match a.ev e with
   | .rv (.one (.ptr id j))=>ok (d5 n len) λk=>K (.rv (.one (.ptr id (j+k*esz)))) m
   | .rv (.one (.nH id s i' j))=>ok (d5 n len) λk=>K (.rv (.one (.nH id s i' (j+k*esz)))) m
   | .rv (.one (.rK ds))=>ok (d5 n len) λk=>K (.rv (.one (.rK (ds.drop (k*esz))))) m
   |_=>False
  |_=>False
 | .CA a i=>match i.ev e with
  | .rv (.one (.ah (.val (.int _ n))))=>match a.ev e with
   | .rv (.one (.ah (.val (.string s))))=>ok (dA s.data.toList n) λb=>K (an .u8 b.toNat) m
   |_=>False
  |_=>False
 | .aL op x y=>match x.ev e with
  | .rv (.one (.ah (.val a)))=>match y.ev e with
   | .rv (.one (.ah (.val b)))=>ok (I7 op a b) λv=>K (.rv (.one (.ah (.val v)))) m
   |_=>False
  |_=>False
 | .PY neg n x y=>match x.ev e with
  | .rv (.agg cs)=>match y.ev e with
   | .rv (.agg ds)=>ok (kQ n cs ds) λb=>K (aF (match neg with|true=>!b|false=>b)) m
   |_=>False
  |_=>False
 | .beq neg x y=>match x.ev e with
  | .rv (.one (.ah (.val (.bool a))))=>match y.ev e with
   | .rv (.one (.ah (.val (.bool b))))=>K (aF (match neg with|true=>!(a==b)|false=>a==b)) m
   |_=>False
  |_=>False
 | .un op x=>match x.ev e with
  | .rv (.one (.ah (.val a)))=>ok (Zo op a) λv=>K (.rv (.one (.ah (.val v)))) m
  |_=>False
 | .conv k x=>match x.ev e with
  | .rv (.one (.ah (.val (.int _ n))))=>K (an k (k.wrap n)) m
  |_=>False
 | .Wm x=>match x.ev e with
  | .rv (.one (.ah (.val (.string s))))=>K (fe s) m
  |_=>False
 | .fn f eM=>ok (wo (Hx e eM)) λkI=>K (.rv (.one (.fn f kI))) m
 | .len 1 x=>match x.ev e with
  | .rv (.one (.ah (.sl _ elems)))=>K (an .i64 (elems.length:Int)) m
  | .rv (.one (.row id _ lo hi))=>ok (cF m id) λbk=>match bk with
   | .row _ elems=>K (an .i64 (lenOf elems.length lo hi:Int)) m
   |_=>False
  | .rv (.one .aM)=>K (an .i64 0) m
  |_=>False
 | .len 0 x=>match x.ev e with
  | .rv (.one (.ah (.val (.string s))))=>K (an .i64 (s.size:Int)) m
  |_=>False
 | .len 2 x=>match x.ev e with
  | .rv (.one (.map id))=>ok (cF m id) λbk=>match bk with
   | .mp es=>K (an .i64 (es.length:Int)) m
   |_=>False
  |_=>False
 | .call f args=>match f.ev e with
  | .rv (.one (.fn f eM))=>aq P f (gI (Hx e args) (vY eM)) m K
  |_=>False
 | .ext x i=>match x.ev e with
  | .bx rs=>ok (cF rs i) λr=>K (.rv r) m
  |_=>False
 | .oL esz bytes dst src=>bB (wv (dst.ev e)&&Hy (dst.ev e) (src.ev e)) (ok (fH m esz (dst.ev e)) λE1=>ok (fH m esz (src.ev e)) λE2=>
   (E1.length+E2.length)*bytes<=140737488355328/\nJ m λn=>K (.rv (.one (.row n esz 0 none))) (gI (jk (jk m (dst.ev e)) (src.ev e)) [.row esz (E1++E2)]))
   (match dst.ev e with
   | .rv (.one (.row id e1 lo (some h)))=>ok (cF m id) λbk=>match bk with
    | .row e2 rows=>ok (fH m esz (src.ev e)) λE2=>bB (Nat.beq lo 0&&(Nat.beq e1 esz&&(Nat.beq e2 esz&&(Nat.ble 1 rows.length&&(Nat.ble (h+E2.length) rows.length&&fJ E2)))))
     (rows.length*bytes<=140737488355328/\K (.rv (.one (.row id esz 0 (some (h+E2.length))))) (aX m id (.row esz (cV rows h E2)))) False
    |_=>False
   |_=>False)
 | .yM neg x=>match x.ev e with
  | .rv (.one (.ah (.sl _ elems)))=>bB (Nat.beq elems.length 0) (K (aF true) m/\K (aF false) m) (K (aF neg) m)
  | .rv (.one (.row id _ lo hi))=>ok (cF m id) λbk=>match bk with
   | .row _ elems=>bB (Nat.beq (lenOf elems.length lo hi) 0) (K (aF true) m/\K (aF false) m) (K (aF neg) m)
   |_=>False
  | .rv (.one .aM)=>K (aF true) m/\K (aF false) m
  |_=>False
 | .oI esz x lo hi (some mx)=>bB (lo.isNone&&E6 e hi&&Zp (mx.ev e)&&L9 (x.ev e)) (K (.rv (.one .aM)) m)
   (ok (lq e lo 0) λl=>ok (fH m esz (x.ev e)) λE=>ok (lq e hi E.length) λh=>ok (qS (mx.ev e)) λWr=>bB (lo.isSome&&(hi.isSome&&(Nat.ble l h&&(Nat.ble h Wr&&Nat.ble Wr E.length)))) (K .aH m) False)
 | .oI esz x lo hi none=>ok (lq e lo 0) λl=>match x.ev e with
  | .rv (.one (.ah (.sl e2 elems)))=>bB (Nat.beq e2 esz) (ok (lq e hi elems.length) λh=>bB (Nat.ble l h&&Nat.ble h elems.length) (K (.rv (.one (.ah (.sl esz ((elems.take h).drop l))))) m) False) False
  | .rv (.one (.row id e2 E7 vZ))=>ok (cF m id) λbk=>match bk with
   | .row _ elems=>bB (Nat.beq e2 esz) (ok (lq e hi (lenOf elems.length E7 vZ)) λh=>bB (Nat.ble l h&&Nat.ble h (elems.length-E7)) (K (.rv (.one (.row id esz (iN E7 l) (some (iN E7 h))))) m) False) False
   |_=>False
  |_=>False
 | .I6 x lo hi=>match x.ev e with
  | .rv (.one (.ah (.val (.string s))))=>ok (lq e lo 0) λl=>ok (lq e hi s.size) λh=>bB (Nat.ble l h&&Nat.ble h s.size) (K (fe (s.extract l h)) m) False
  |_=>False
 | .aR x=>match x.ev e with
  | .rv (.one (.ptr id j))=>K (.rv (.one (.ptr id j))) m
  | .rv (.one (.nH id s i j))=>K (.rv (.one (.nH id s i j))) m
  | .rv (.one (.rK ds))=>K (.rv (.one (.rK ds))) m
  |_=>False
 | .VO x=>ok (fH m 1 (x.ev e)) λE=>ok (ww E) λxs=>K (fe (strOfNums xs)) m
 | .Wn x=>match x.ev e with
  | .rv (.one (.ah (.val (.string s))))=>s.size<=140737488355328/\nJ m λn=>K (.rv (.one (.row n 1 0 none))) (gI m [.row 1 (qT s)])
  |_=>False
 | .ko mx [x,y]=>match x.ev e with
  | .rv (.one (.ah (.val (.int k a))))=>match y.ev e with
   | .rv (.one (.ah (.val (.int _ b))))=>match mx with
    |true=>K (an k (if b>a then b else a)) m
    |false=>K (an k (if b<a then b else a)) m
   |_=>False
  |_=>False
 | .Zn x=>match x.ev e with
  | .rv (.one (.row id e1 lo hi))=>ok (cF m id) λbk=>match bk with
   | .row esz rows=>bB (Nat.beq esz 1&&Nat.blt lo rows.length) (K (.rv (.one (.row id e1 lo hi))) m) False
   |_=>False
  |_=>False
 | .VP esz z x=>match x.ev e with
  | .rv (.one (.row id e1 lo hi))=>ok (cF m id) λbk=>match bk with
   | .row e2 rows=>bB (Nat.beq e1 esz&&(Nat.beq e2 esz&&Nat.ble (qQ hi rows.length) rows.length))
     (bB (Nat.blt lo (qQ hi rows.length)) (K (.bx []) (aX m id (.row esz (cV rows lo (gH (qQ hi rows.length-lo) z))))) (K (.bx []) m)) False
   |_=>False
  | .rv (.one .aM)=>K (.bx []) m
  |_=>False
 | .copy esz d s=>ok (fH m esz (s.ev e)) λE=>bB (Nat.beq E.length 0) (bB (L9 (d.ev e)) (K (an .i64 0) m) False)
   (match d.ev e with
   | .rv (.one (.row id e1 lo hi))=>ok (cF m id) λbk=>match bk with
    | .row e2 rows=>bB (Nat.beq e1 esz&&(Nat.beq e2 esz&&(Nat.ble (qQ hi rows.length) rows.length&&(Nat.ble (lo+E.length) (qQ hi rows.length)&&fJ E)))) (K (an .i64 (E.length:Int)) (aX m id (.row esz (cV rows lo E)))) False
    |_=>False
   |_=>False)
 | .L6 agg n sz x i=>match i.ev e with
  | .rv (.one (.ah (.val (.int _ j))))=>match x.ev e with
   | .rv (.agg cs)=>ok (d5 j n) λk=>ok (jp cs (k*sz) sz) λl=>ok (L8 agg l) λv=>K v m
   |_=>False
  |_=>False
 | .Wo x=>match x.ev e with
  | .rv (.one (.map id))=>ok (cF m id) λbk=>match bk with
   | .mp es=>ok (rO es) λl=>nJ m λn=>K (.rv (.one (.ptr n 0))) (gI (aX m id .aU) [.it [] l])
   | .mo esz es none=>∀(st:List Nat)(ip:Nat),st.length=es.length->st.Nodup->(∀s,s∈st->s<ip)->nJ m λn=>K (.rv (.one (.ptr n 0))) (gI (aX m id (.mo esz es (some (st,ip)))) [.iw id ip []])
   |_=>False
  |_=>False
 | .tu x=>match x.ev e with
  | .rv (.one (.ptr id 0))=>ok (cF m id) λbk=>match bk with
   | .it _ left=>(left=[]->K (.bx [.one (.ah (.val (.bool false)))]) m)/\∀(i:Nat)(k v:Value)(SA:List (Value×Value)),left[i]? =some (k,v)->SA=left.eraseIdx i->K (.bx [.one (.ah (.val (.bool true))),.one (.ah (.val k)),.one (.ah (.val v))]) (aX m id (.it [(k,v)] SA))
   | .iw mid ip seen=>ok (cF m mid) λb2=>match b2 with
    | .mo esz es (some (st,c2))=>c2=ip/\((∀s,s∈st->s∈seen)->K (.bx [.one (.ah (.val (.bool false)))]) (aX m mid (.mo esz es none)))/\
     ∀(i:Nat)(x:MO)(s:Nat),es[i]? =some x->st[i]? =some s->¬s∈seen->K (.bx [.one (.ah (.val (.bool true))),.one (.ah (.val x.key)),.one .aH]) (aX m id (.iw mid ip (s::seen)))
    |_=>False
   |_=>False
  |_=>False
 | .Wp x=>match x.ev e with
  | .rv (.one (.ptr id 0))=>ok (cF m id) λbk=>match bk with
   | .it (p::_) _=>K (.bx [.one (.ah (.val p.1)),.one (.ah (.val p.2))]) m
   | .iw mid ip (s::_)=>ok (cF m mid) λb2=>match b2 with
    | .mo _ es (some (st,c2))=>c2=ip/\∃(i:Nat)(x:MO),es[i]? =some x/\st[i]? =some s/\K (.bx [.one (.ah (.val x.key)),.one .aH]) m
    |_=>False
   |_=>False
  |_=>False
 | .rM=>nJ m λn=>K (.rv (.one (.map n))) (gI m [.mp []])
 | .pL esz bytes z nx cx=>ok (qS (nx.ev e)) λl=>ok (qS (cx.ev e)) λc=>bB (Nat.beq l c) (c*bytes<=140737488355328/\nJ m λn=>K (.rv (.one (.row n esz 0 none))) (gI m [.row esz (gH l z)])) False
 | .yN z kk mx kx okF=>match kx.ev e with
  | .rv (.one (.ah (.val kv)))=>bB (kR kk kv) (match TS m (mx.ev e)with
   |some (id,esz,es,so)=>ok (iV kv es 0) λo=>match o with
    |none=>K (uR okF z none) m
    |some (_,.row n)=>K (uR okF z (some (.one (.row n esz 0 none)))) m
    |some (i,.ei l)=>nJ m λn=>K (uR okF z (some (.one (.row n esz 0 none)))) (gI (aX m id (.mo esz (aX es i ⟨kv,.row n⟩) so)) [.row esz (l.map λds=>ds.map .ah)])
   |none=>ok (HA m (mx.ev e)) λes=>ok (oh kv es) λo=>K (uR okF z o) m) False
  | .rv (.agg cs)=>ok (tC cs) λkv=>bB (kR kk kv) (ok (HA m (mx.ev e)) λes=>ok (oh kv es) λo=>K (uR okF z o) m) False
  |_=>False
 | .tz kk mx kx vx=>match mx.ev e with
  | .rv (.one (.map id))=>match kx.ev e with
   | .rv (.one (.ah (.val kv)))=>bB (kR kk kv) (ok (cF m id) λbk=>match bk with
    | .mp es=>ok (CB (vx.ev e)) λv=>ok (wt kv v es) λbt=>K .undef (aX m id (.mp bt))
    | .mo esz es none=>match vx.ev e with
     | .rv (.one (.row n e1 lo hi))=>ok (cF m n) λb2=>match b2 with
      | .row e2 rows=>bB (Nat.beq e1 esz&&Nat.beq e2 esz) (∃(ds:List (List Dt))(bt:List MO),rows=ds.map (λd=>d.map .ah)/\mU kv (.ei (b7 ds lo hi)) es=some bt/\K .undef (aX (aX m n .aU) id (.mo esz bt none))) False
      |_=>False
     |_=>False
    |_=>False) False
   | .rv (.agg cs)=>ok (tC cs) λkv=>bB (kR kk kv) (ok (cF m id) λbk=>match bk with
    | .mp es=>ok (CB (vx.ev e)) λv=>ok (wt kv v es) λbt=>K .undef (aX m id (.mp bt))
    |_=>False) False
   |_=>False
  |_=>False
 | .L5 kk mx kx=>match mx.ev e with
  | .rv (.one (.map id))=>match kx.ev e with
   | .rv (.one (.ah (.val kv)))=>bB (kR kk kv) (ok (cF m id) λbk=>match bk with
    | .mo esz es (some (st,ip))=>ok (iV kv es 0) λo=>match o with
     |none=>K (.bx []) m
     |some (i,_)=>K (.bx []) (aX m id (.mo esz (es.eraseIdx i) (some (st.eraseIdx i,ip))))
    |_=>False) False
   |_=>False
  |_=>False
 |_=>False
def wx:Value->Option CC
 | .slice none 0 0=>some .aM
 |v=>match cu v with|true=>some (.ah (.val v))|false=>none
def bq:Operand->Option X
 | .tmp t=>some (.t t)
 | .const v=>(wx v).map λc=>.c (.rv (.one c))
 | .func f=>some (.c (.rv (.one (.fn f []))))
 | .global _=>none
def uS:List Operand->Option (List X)
 | []=>some []
 |x::r=>do some ((<-bq x)::(<-uS r))
def iA:Option Operand->Option (Option X)
 |none=>some none
 |some x=>do some (some (<-bq x))
def eN(P:Program)(t:TypeId):Option Nat:=(P.info? t).map (·.size)
def ec(P:Program)(t:TypeId):Option Bool:=(P.underlying t).map λ| .struct _| .array _ _=>true|_=>false
def mV:List Value->Option (List CC)
 | []=>some []
 |v::r=>do some ((<-wx v)::(<-mV r))
def ek(P:Program)(t:TypeId):Option (List CC):=do mV (<-(<-P.info? t).zero).cells.toList
def mW(P:Program)(fs:Array Field):List (Nat×Operand)->Option (List (Nat×Nat×X))
 | []=>some []
 |(i,x)::r=>do
  let f<-fs[i]?
  some ((f.offset,<-eN P f.type,<-bq x)::(<-mW P fs r))
def ld(sz:Nat):List (Nat×Operand)->Option (List (Nat×Nat×X))
 | []=>some []
 |(i,x)::r=>do some ((i*sz,sz,<-bq x)::(<-ld sz r))
def lg:List (Nat×Operand)->Option (List (Nat×X))
 | []=>some []
 |(i,x)::r=>do some ((i,<-bq x)::(<-lg r))
def CD(g:TypeId->Option (List Kd)):List Field->Nat->Option (List Kd)
 | [],_=>some []
 |f::r,off=>if f.name≠ "_" /\f.offset=off then
   match g f.type with
   |some ks=>match CD g r (off+ks.length)with
    |some ls=>some (ks++ls)
    |none=>none
   |none=>none
  else none
def flatK(P:Program):Nat->TypeId->Option (List Kd)
 |0,_=>none
 |d+1,t=>match P.underlying t with
  |some .bool=>if eN P t=some 1 then some [.b]else none
  |some (.int _)=>if eN P t=some 1 then some [.i]else none
  |some .string=>if eN P t=some 1 then some [.s]else none
  |some (.struct fs)=>if P.stoodInHeld t=false then
    match CD (flatK P d) fs.toList 0 with
    |some ks=>if eN P t=some ks.length then some ks else none
    |none=>none
   else none
  |_=>none
def oO(P:Program)(t:TypeId):Option Ky:=
 match P.underlying t with
 |some (.int k)=>some (.i k)
 |some .string=>some .s
 |some .bool=>some .b
 |some (.array n e)=>match P.underlying e with
  |some (.int k)=>if n=2/\eN P e=some 1 then some (.a2 k)else none
  |_=>none
 |_=>none
def CE(P:Program)(t:TypeId):Option RV:=do
 match (<-(<-P.info? t).zero)with
 | .agg cs=>do some (.agg (<-mV cs.toList))
 |v=>do some (.one (<-wx v))
def wy(P:Program)(o:Oper):Option I:=
 match o.op with
 | .move x| .assign x=>do some (.aN (<-bq x))
 | .pick c a b=>do some (.pick (<-bq c) (<-bq a) (<-bq b))
 | .alloc t=>do some (.alloc (<-ek P t))
 | .box _ x=>do some (.box (<-bq x))
 | .build t ps=>do
  let z<-ek P t
  match P.underlying t with
  |some (.struct fs)=>if(fs.toList.mapM (λf=>(P.info? f.type).map λi=>(f.offset,i.size))).isSome then some (.build z (<-mW P fs ps.toList))else none
  |some (.array _ e)=>some (.build z (<-ld (<-eN P e) ps.toList))
  |_=>none
 | .buildSlice t n ps=>do
  match P.underlying t with
  |some (.slice e)=>
   let z<-ek P e
   if(<-eN P e)=z.length/\0<z.length/\n*z.length<=2^24 then some (.nI z.length z n (<-lg ps.toList))else none
  |_=>none
 | .load t a=>do some (.load (<-ec P t) (<-eN P t) (<-bq a))
 | .store t a x=>do
  let n<-eN P t
  if n=0 then none else some (.store n (<-bq a) (<-bq x))
 | .fieldAddr t a k=>do
  match P.underlying t with
  |some (.struct fs)=>
   let f<-fs[k]?
   if(<-eN P f.type)=0 then none else some (.bY f.offset (<-bq a))
  |_=>none
 | .field t a k=>do
  match P.underlying t with
  |some (.struct fs)=>
   let f<-fs[k]?
   some (.Wl (<-ec P f.type) f.offset (<-eN P f.type) (<-bq a))
  |_=>none
 | .indexAddr t a i=>do
  match P.underlying t with
  |some (.slice e)=>some (.cw (<-eN P e) (<-bq a) (<-bq i))
  |some (.array n e)=>some (.Cz n (<-eN P e) (<-bq a) (<-bq i))
  |_=>none
 | .index t a i=>do
  match P.underlying t with
  |some .string=>some (.CA (<-bq a) (<-bq i))
  |some (.array n e)=>some (.L6 (<-ec P e) n (<-eN P e) (<-bq a) (<-bq i))
  |_=>none
 | .binOp op t x y _=>do
  match P.underlying t with
  |some (.int _)|some .string=>some (.aL op (<-bq x) (<-bq y))
  |some (.slice _)=>match y,op with
   | .const (.slice none 0 0),.eql=>some (.yM false (<-bq x))
   | .const (.slice none 0 0),.neq=>some (.yM true (<-bq x))
   |_,_=>none
  |some .bool=>match op with
   | .eql=>some (.beq false (<-bq x) (<-bq y))
   | .neq=>some (.beq true (<-bq x) (<-bq y))
   |_=>none
  |some (.array n e)=>match P.eqGuardType P.depth t,P.underlying e,eN P e,op with
   |false,some (.int _),some 1,.eql=>some (.PY false (gH n .i) (<-bq x) (<-bq y))
   |false,some (.int _),some 1,.neq=>some (.PY true (gH n .i) (<-bq x) (<-bq y))
   |_,_,_,_=>none
  |some (.struct _)=>match P.eqGuardType P.depth t,flatK P 5 t,op with
   |false,some ks,.eql=>some (.PY false ks (<-bq x) (<-bq y))
   |false,some ks,.neq=>some (.PY true ks (<-bq x) (<-bq y))
   |_,_,_=>none
  |_=>none
 | .unOp op _ x=>do some (.un op (<-bq x))
 | .convert s d x=>do
  match P.underlying s,P.underlying d with
  |some (.int _),some (.int k)=>some (.conv k (<-bq x))
  |some .string,some .string=>some (.Wm (<-bq x))
  |some (.slice e),some .string=>match P.underlying e with
   |some (.int .u8)=>some (.VO (<-bq x))
   |_=>none
  |some .string,some (.slice e)=>match P.underlying e with
   |some (.int .u8)=>some (.Wn (<-bq x))
   |_=>none
  |some (.slice _),some (.slice e)=>match s==d,P.underlying e with
   |true,some (.int .u8)=>some (.Zn (<-bq x))
   |_,_=>none
  |_,_=>none
 | .makeMap t r=>match r,P.underlying t with
  |none,_=>some .rM
  |some (.const (.int _ _)),some (.map _ _)=>some .rM
  |_,_=>none
 | .makeSlice t l c=>do
  match P.underlying t with
  |some (.slice e)=>
   let i<-P.info? e;let z<-ek P e
   if i.size=z.length/\0<z.length/\0<i.bytes then some (.pL i.size i.bytes z (<-bq l) (<-bq c))else none
  |_=>none
 | .lookup t x k b=>do
  match P.underlying t with
  |some (.map kt vt)=>some (.yN (<-CE P vt) (<-oO P kt) (<-bq x) (<-bq k) b)
  |_=>none
 | .mapUpdate t x k v| .insert t x k v=>do
  match P.underlying t with
  |some (.map kt _)=>some (.tz (<-oO P kt) (<-bq x) (<-bq k) (<-bq v))
  |_=>none
 | .makeFunc (.func f) fst eM=>if fst.size=0 then do some (.fn f (<-uS eM.toList))else none
 | .extract x i=>do some (.ext (<-bq x) i)
 | .nilCheck x=>do some (.aR (<-bq x))
 | .range t x=>match P.underlying t with
  |some (.map _ _)=>do some (.Wo (<-bq x))
  |_=>none
 | .next it false=>do some (.tu (<-bq it))
 | .entry it=>do some (.Wp (<-bq it))
 | .slice t x lo hi mx=>do
  match P.underlying t with
  |some (.slice e)=>some (.oI (<-eN P e) (<-bq x) (<-iA lo) (<-iA hi) (<-iA mx))
  |some .string=>match mx with
   |none=>some (.I6 (<-bq x) (<-iA lo) (<-iA hi))
   |some _=>none
  |_=>none
 | .call {callee:= .builtin .len,args,argTypes}=>do
  match args.toList,argTypes.toList with
  | [x],[t]=>match P.underlying t with
   |some .string=>some (.len 0 (<-bq x))
   |some (.slice _)=>some (.len 1 (<-bq x))
   |some (.map _ _)=>some (.len 2 (<-bq x))
   |_=>none
  |_,_=>none
 | .call {callee:= .builtin .append,args,argTypes}=>do
  match args.toList,argTypes.toList with
  | [x,y],[t,t2]=>match P.underlying t,P.underlying t2 with
   |some (.slice e),some (.slice e2)=>
    let i<-P.info? e;let z<-ek P e
    if i.size=z.length/\0<z.length/\0<i.bytes then some (.oL i.size i.bytes (<-bq x) (<-bq y))else none
   |_,_=>none
  |_,_=>none
 | .call {callee:= .builtin .max,args,..}=>do
  match args.toList with
  | [x,y]=>some (.ko true [<-bq x,<-bq y])
  |_=>none
 | .call {callee:= .builtin .min,args,..}=>do
  match args.toList with
  | [x,y]=>some (.ko false [<-bq x,<-bq y])
  |_=>none
 | .call {callee:= .builtin .clear,args,argTypes}=>do
  match args.toList,argTypes.toList with
  | [x],[t]=>match P.underlying t with
   |some (.slice e)=>
    let i<-P.info? e;let z<-ek P e
    if i.size=z.length then some (.VP i.size z (<-bq x))else none
   |_=>none
  |_,_=>none
 | .call {callee:= .builtin .copy,args,argTypes}=>do
  match args.toList,argTypes.toList with
  | [x,y],[t,_]=>match P.underlying t with
   |some (.slice e)=>
    let i<-P.info? e;let z<-ek P e
    if i.size=z.length then some (.copy i.size (<-bq x) (<-bq y))else none
   |_=>none
  |_,_=>none
 | .call {callee:= .builtin .delete,args,argTypes}=>do
  match args.toList,argTypes.toList with
  | [x,y],t::_=>match P.underlying t with
   |some (.map kt _)=>some (.L5 (<-oO P kt) (<-bq x) (<-bq y))
   |_=>none
  |_,_=>none
 | .call {callee:= .value f,args,..}=>do some (.call (<-bq f) (<-uS args.toList))
 |_=>none
def Ma:I:= .ko true []
def tE(P:Program)(o:Oper):Option I:=
 match wy P o with
 |some i=>some i
 |none=>match o.op with
  | .defer _=>none
  |_=>some Ma
theorem Qk(P:Program){e:List CV}{m:Mem}{K:CV->Mem->Prop}:step P Ma e m K=False:=rfl
theorem E8{P:Program}{o:Oper}{i:I}(h:tE P o=some i):wy P o=some i\/i=Ma:=by
 unfold tE at h;split at h
 .rename_i j hj;exact .inl (by rw[hj];exact h)
 .split at h
  .cases h
  .cases h;exact .inr rfl
def Mb(ops:Array Oper):Option (Nat×Bool)->Option (Option (Nat×Bool))
 |none=>some none
 |some (j,b)=>do some (some (<-(<-ops[j]?).dst,b))
def wz(P:Program)(ops:Array Oper)(o:Oper):Option LO:=do some ⟨o.dst,<-tE P o,<-Mb ops o.guard⟩
def mX(P:Program)(ops:Array Oper):List Oper->Option (List LO)
 | []=>some []
 |o::r=>do some ((<-wz P ops o)::(<-mX P ops r))
def I.xs:I->List X
 | .aN x=>[x]
 | .pick c a b=>[c,a,b]
 | .alloc _=>[]
 | .box x=>[x]
 | .build _ ps=>ps.map λp=>p.2.2
 | .nI _ _ _ ps=>ps.map λp=>p.2
 | .load _ _ a=>[a]
 | .store _ a x=>[a,x]
 | .bY _ a=>[a]
 | .Wl _ _ _ a=>[a]
 | .cw _ a i=>[a,i]
 | .Cz _ _ a i=>[a,i]
 | .CA a i=>[a,i]
 | .aL _ x y=>[x,y]
 | .PY _ _ x y=>[x,y]
 | .beq _ x y=>[x,y]
 | .un _ x=>[x]
 | .conv _ x=>[x]
 | .Wm x=>[x]
 | .Wn x=>[x]
 | .VO x=>[x]
 | .oI _ x lo hi mx=>x::(lo.toList++hi.toList++mx.toList)
 | .I6 x lo hi=>x::(lo.toList++hi.toList)
 | .fn _ eM=>eM
 | .len _ x=>[x]
 | .oL _ _ d s=>[d,s]
 | .call f args=>f::args
 | .ext x _=>[x]
 | .aR x=>[x]
 | .yM _ x=>[x]
 | .rM=>[]
 | .pL _ _ _ n c=>[n,c]
 | .yN _ _ m k _=>[m,k]
 | .tz _ m k v=>[m,k,v]
 | .ko _ xs=>xs
 | .L5 _ m k=>[m,k]
 | .copy _ d s=>[d,s]
 | .VP _ _ x=>[x]
 | .L6 _ _ _ x i=>[x,i]
 | .Zn x=>[x]
 | .Wo x=>[x]
 | .tu x=>[x]
 | .Wp x=>[x]
def mf:List X->List Nat
 | []=>[]
 | .t n::r=>n::mf r
 | .c _::r=>mf r
def LO.looks(lo:LO):List Nat:=
 match lo.guard with
 |none=>mf lo.Co.xs
 |some (s,_)=>s::mf lo.Co.xs
def zk:I->Bool
 | .aN _| .pick .. | .build .. | .bY .. | .Wl .. | .L6 .. | .Cz .. | .CA .. | .aL .. | .PY .. | .beq .. | .un .. | .conv .. | .Wm .. | .fn .. | .ext .. | .aR _| .I6 .. =>true
 |_=>false
def tF(i:I):Bool:=zk i||match i with| .load .. | .cw .. | .len .. | .oI .. =>true|_=>false
def AD(de:List Nat)(l:List Nat):Nat:=l.foldr (λj m=>Nat.lor m (Nat.lor (Nat.shiftLeft 1 j) ((cF de j).getD 0))) 0
def E9(ig:List (List Nat))(de:List Nat):List Nat:=ig.map (AD de)
def AE(ig:List (List Nat)):Nat->List Nat->List Nat
 |0,de=>de
 |k+1,de=>let a:=E9 ig de;match a==de with|true=>de|false=>AE ig k a
def bo(n:Nat)(ig:List (List Nat)):List Nat:=AE ig n []
def nK(ms:List Nat)(i j:Nat):Bool:=Nat.testBit ((cF ms i).getD 0) j
def dm(bZ:List LO)(t j:Nat):Bool:=match cF bZ j with|some lo=>(match lo.dst with|some d=>Nat.beq d t|none=>false)|none=>false
def oP(bZ:List LO)(j:Nat):List Nat:=match cF bZ j with|some lo=>lo.looks|none=>[]
def I8(bZ:List LO)(j:Nat):Option Nat:=match cF bZ j with|some lo=>lo.dst|none=>none
def Fa(bZ:List LO)(j:Nat):Bool:=match cF bZ j with|some lo=>zk lo.Co|none=>false
def mg(bZ:List LO)(j:Nat):Bool:=match cF bZ j with|some lo=>tF lo.Co|none=>false
def nG.hd:nG->List Nat
 | .nil=>[]
 | .cons i _ _=>[i]
 | .wm a b=>a.hd++b.hd
def HB(bZ:List LO)(ms:List Nat)(n:Nat)(bf:List Nat)(i:Nat):Bool:=
 Nat.blt i n&& !(bf.contains i)&&
  ((oP bZ i).all λt=>bf.all λj=>!(dm bZ t j)||nK ms i j)&&
  (match I8 bZ i with|none=>true|some t=>bf.all λj=>!(dm bZ t j)&&(!((oP bZ j).contains t)||nK ms i j))
def TT(ms:List Nat)(n:Nat)(bf hd:List Nat):Bool:=(List.range n).all λi=>bf.contains i||(hd.contains i||hd.any λf=>nK ms i f)
def ef(bZ:List LO)(ms:List Nat)(n:Nat):Bool->List Nat->nG->Bool
 |c,bf,.nil=>c&&(List.range n).all λi=>bf.contains i
 |c,bf,.cons i none r=>c&&(HB bZ ms n bf i&&(mg bZ i&&ef bZ ms n true (i::bf) r))
 |c,bf,.cons i (some l) r=>(!c||TT ms n bf [i])&&(HB bZ ms n bf i&&((bf.all λj=>!(mg bZ j)||(nK ms i j||(Fa bZ j||l.contains j)))&&ef bZ ms n true (i::bf) r))
 |c,bf,.wm x y=>(!c||TT ms n bf (x.hd++y.hd))&&(ef bZ ms n false bf x&&ef bZ ms n false bf y)
def zl(ig:List (List Nat))(n:Nat):List Nat->List Nat->Bool
 |bf,[]=>(List.range n).all λi=>bf.contains i
 |bf,i::r=>Nat.blt i n&&((cF ig i).getD []).all (λj=>bf.contains j)&&zl ig n (i::bf) r
def Ws(ig:List (List Nat))(n:Nat):Nat->List Nat->List Nat
 |0,_=>[]
 |k+1,bf=>match (List.range n).find? λi=>!(bf.contains i)&&((cF ig i).getD []).all (λj=>bf.contains j)with
  |some i=>i::Ws ig n k (i::bf)
  |none=>[]
def rQ(bZ:List LO)(ig:List (List Nat))(sched:nG):Bool:=
 zl ig bZ.length [] (Ws ig bZ.length bZ.length [])&&ef bZ (bo bZ.length ig) bZ.length true [] sched
def Mc(bZ:List LO)(ms:List Nat)(CF:List Nat)(done:List Nat)(i:Nat):Bool:=
 !(done.contains i)&&mg bZ i&&CF.all λf=>done.contains f|| !(nK ms i f)
def SB:List Nat->nG->nG
 | [],r=>r
 |i::l,r=>.cons i none (SB l r)
def Wu:List nG->nG
 | []=>.nil
 | [x]=>x
 |x::r=>.wm x (Wu r)
def HC(bZ:List LO)(ms:List Nat)(all CF:List Nat):Nat->List Nat->nG
 |0,_=>.nil
 |k+1,done=>
  let Zq:=all.filter (Mc bZ ms CF done);let SC:=Zq.reverse++done;let left:=CF.filter λf=>!(done.contains f)
  SB Zq (Wu ((left.filter λf=>left.all λg=>Nat.beq g f|| !(nK ms f g)).map λf=>
   .cons f (some (SC.filter λj=>mg bZ j&& !(nK ms f j||Fa bZ j))) (HC bZ ms all CF k (f::SC))))
def HD(bZ:List LO)(ig:List (List Nat)):nG:=
 let ms:=bo bZ.length ig;let all:=List.range bZ.length;let CF:=all.filter λi=>!(mg bZ i)
 HC bZ ms all CF (CF.length+1) []
def lu(md:Region.Mode)(ops:Array Oper):List (List Nat):=ops.toList.map λo=>(o.after.toList.filter (Region.binds md)).map (·.on)
def wa(P:Program)(ops:Array Oper):List Region.Mode:=if(P.follows .mixedOrders|| !(Region.departs ops))=true then [.any]else [.text,.gc]
def wA(P:Program)(bZ:List LO)(ops:Array Oper):Option (List nG):=
 let ms:=wa P ops;let s:=HD bZ (lu .any ops)
 if(ms.all λmd=>rQ bZ (lu md ops) s)=true then some [s]
 else
  let ss:=ms.map λmd=>HD bZ (lu md ops)
  if(ms.all λmd=>ss.any λs=>rQ bZ (lu md ops) s)=true then some ss else none
def d8(P:Program):Code->Option LC
 | .skip=>some .skip
 | .region _ ops true=>do
  let bZ<-mX P ops ops.toList
  some (.bV bZ (<-wA P bZ ops))
 | .region _ ops false=>do some (.ai (<-mX P ops ops.toList))
 | .seq a b=>do some (.seq (<-d8 P a) (<-d8 P b))
 | .cond x a b=>do some (.cond (<-bq x) (<-d8 P a) (<-d8 P b))
 | .block id b=>do some (.block id (<-d8 P b))
 | .loop b=>do some (.loop (<-d8 P b))
 | .exit id=>some (.exit id)
 | .ret=>some .ret
 | .rangeFunc f ps a c=>do
  match ps.toList with
  | [p]=>
   let la<-d8 P a;let lc<-d8 P c
   if(la.rN&&lc.rN)=true then some (.yO (<-bq f) p la lc)else none
  |_=>none
 |_=>none
def oQ(P:Program):List ResultVar->Option (List Rv)
 | []=>some []
 | .tmp t::r=>do some (.tmp t::(<-oQ P r))
 | .cell a t::r=>do some (.cell (<-ec P t) (<-eN P t) a::(<-oQ P r))
def bz(P:Program)(fn:Func):Option LF:=do
 some ⟨fn.ntmps,<-oQ P fn.results.toList,<-d8 P (<-fn.body)⟩
inductive Ex where
 |normal
 |exit (id:Nat)
 |ret
def put(d:Option Nat)(v:CV)(e:List CV)(K:List CV->Prop):Prop:=
 match d with
 |none=>K e
 |some d=>fV v λv=>jo (aX e d v) K
def HE(P:Program)(o:LO)(ih:(List CV->Mem->Prop)->List CV->Mem->Prop)(K:List CV->Mem->Prop)(e:List CV)(m:Mem):Prop:=
  match o.guard with
  |none=>step P o.Co e m λv m'=>jo m' λm'=>put o.dst v e λe'=>ih K e' m'
  |some (s,kp)=>
   match kP e s with
   | .undef=>put o.dst .undef e λe'=>ih K e' m
   | .rv (.one (.ah (.val (.bool t))))=>bB t
    (jo (aX e s (aF true)) λe=>match kp with
     |true=>step P o.Co e m λv m'=>jo m' λm'=>put o.dst v e λe'=>ih K e' m'
     |false=>put o.dst .undef e λe'=>ih K e' m)
    (jo (aX e s (aF false)) λe=>match kp with
     |false=>step P o.Co e m λv m'=>jo m' λm'=>put o.dst v e λe'=>ih K e' m'
     |true=>put o.dst .undef e λe'=>ih K e' m)
   |_=>False
def I9(P:Program)(l:List LO):(List CV->Mem->Prop)->List CV->Mem->Prop:=
 @List.rec LO (λ_=>(List CV->Mem->Prop)->List CV->Mem->Prop) (λK e m=>K e m) (λo _ ih K e m=>HE P o ih K e m) l
theorem zm{P:Program}{o:LO}{r:List LO}{K:List CV->Mem->Prop}{e:List CV}{m:Mem}:I9 P (o::r) K e m=HE P o (I9 P r) K e m:=rfl
def oi(P:Program)(lo:LO)(e:List CV)(m:Mem)(K:List CV->CV->Mem->Prop):Prop:=
 match lo.guard with
 |none=>step P lo.Co e m λv m'=>jo m' λm'=>K e v m'
 |some (s,kp)=>match kP e s with
  | .undef=>K e .undef m
  | .rv (.one (.ah (.val (.bool t))))=>bB t
   (jo (aX e s (aF true)) λe=>match kp with
    |true=>step P lo.Co e m λv m'=>jo m' λm'=>K e v m'
    |false=>K e .undef m)
   (jo (aX e s (aF false)) λe=>match kp with
    |false=>step P lo.Co e m λv m'=>jo m' λm'=>K e v m'
    |true=>K e .undef m)
  |_=>False
def wB(j:Nat):List (Nat×LO×List CV×CV)->Option (LO×List CV×CV)
 | []=>none
 |(i,x)::r=>match Nat.beq i j with|true=>some x|false=>wB j r
def Wv(P:Program)(m:Mem)(eu:List (Nat×LO×List CV×CV))(l:List Nat):Prop:=
 @List.rec Nat (λ_=>Prop) True (λj _ ih=>(ok (wB j eu) λx=>oi P x.1 x.2.1 m λ_ v _=>v=x.2.2)/\ih) l
theorem Md{P:Program}{m:Mem}{eu:List (Nat×LO×List CV×CV)}{j:Nat}{r:List Nat}:Wv P m eu (j::r)=((ok (wB j eu) λx=>oi P x.1 x.2.1 m λ_ v _=>v=x.2.2)/\Wv P m eu r):=rfl
def HF(P:Program)(bZ:List LO)(i:Nat)(L7:Option (List Nat))(ih:List (Nat×LO×List CV×CV)->(List CV->Mem->Prop)->List CV->Mem->Prop)(eu:List (Nat×LO×List CV×CV))(K:List CV->Mem->Prop)(e:List CV)(m:Mem):Prop:=
 ok (cF bZ i) λlo=>oi P lo e m λe1 v m'=>put lo.dst v e1 λe'=>
  match L7 with
  |none=>ih ((i,lo,e,v)::eu) K e' m'
  |some l=>Wv P m' eu l/\ih eu K e' m'
def vC(P:Program)(bZ:List LO)(Z9:nG):List (Nat×LO×List CV×CV)->(List CV->Mem->Prop)->List CV->Mem->Prop:=
 @nG.rec (λ_=>List (Nat×LO×List CV×CV)->(List CV->Mem->Prop)->List CV->Mem->Prop) (λ_ K e m=>K e m)
  (λi L7 _ ih eu K e m=>HF P bZ i L7 ih eu K e m) (λ_ _ TU TV eu K e m=>TU eu K e m/\TV eu K e m) Z9
theorem zn{P:Program}{bZ:List LO}{i:Nat}{L7:Option (List Nat)}{r:nG}{eu:List (Nat×LO×List CV×CV)}{K:List CV->Mem->Prop}{e:List CV}{m:Mem}:
  vC P bZ (.cons i L7 r) eu K e m=HF P bZ i L7 (vC P bZ r) eu K e m:=rfl
theorem Me{P:Program}{bZ:List LO}{a b:nG}{eu:List (Nat×LO×List CV×CV)}{K:List CV->Mem->Prop}{e:List CV}{m:Mem}:
  vC P bZ (.wm a b) eu K e m=(vC P bZ a eu K e m/\vC P bZ b eu K e m):=rfl
def TW(x:X)(v:CV)(e:List CV):List CV:=
 match x with
 | .t n=>aX e n v
 | .c _=>e
def kT:Nat->List (Nat×CV)->List CV
 |n,as=>go n as (gH n .aH)
 where go:Nat->List (Nat×CV)->List CV->List CV
 |_,[],e=>e
 |n,(s,v)::r,e=>aX (go n r e) s v
inductive mY:Mem->Mem->Prop
 |nil (m:Mem):mY m []
 |cons {b b':Bk} {m m':Mem} (h:b'=b\/b'= .aU) (hm:mY m m'):mY (b::m) (b'::m')
def CC.dB(n:Nat):CC->Prop
 | .ptr id _=>id<n
 | .nH id _ _ _=>id<n
 | .row id _ _ _=>id<n
 | .map id=>id<n
 | .fn _ eM=>∀id,id∈eM->id<n
 |_=>True
def RV.dB(n:Nat):RV->Prop
 | .one c=>c.dB n
 | .agg cs=>∀c,c∈cs->c.dB n
def CV.dB(n:Nat):CV->Prop
 | .rv r=>r.dB n
 | .bx rs=>∀r,r∈rs->r.dB n
 |_=>True
def Bk.dB(n:Nat):Bk->Prop
 | .aU=>True
 | .var cs=>∀c,c∈cs->c.dB n
 | .row _ elems=>∀cs,cs∈elems->∀c,c∈cs->c.dB n
 | .mp es=>∀e,e∈es->e.val.dB n
 | .it _ _=>True
 | .mo _ es _=>∀e,e∈es->(e.cc 0).dB n
 | .iw mid _ _=>mid<n
structure Mf(n0:Nat)(s s':St):Prop where
 n0:n0<=s'.mem.length
 len:s'.aZ.length=s.aZ.length
 aZ:∀(i:Nat)v,s'.aZ[i]? =some v->v= .aH\/(s.aZ[i]? =some v/\(s'.mem.length=s.mem.length\/v.dB s'.mem.length))
 mem:mY s.mem s'.mem
 kI:s'.mem.length=s.mem.length\/∀b,b∈s'.mem->b.dB s'.mem.length
structure TY(n0:Nat)(ρ:bJ)(m:Mem)(U':bJ)(m':Mem):Prop where
 aI:∀id,id<n0->U'.aI (.aj id)=ρ.aI (.aj id)
 S:∀b,ρ.S b->U'.S b
 S':∀b,U'.S b->ρ.S b\/∃k,Live ρ m k/\(ρ.aI k).b=b
 aO:∀k,Live U' m' k->∃k0,Live ρ m k0/\(ρ.aI k0).b=(U'.aI k).b
structure View(n0:Nat)(s s':St):Prop where
 hn:n0<=s'.mem.length
 len:s'.aZ.length=s.aZ.length
 go:∀(ρ:bJ)(w:World),aA ρ s.mem w->∃U',aA U' s'.mem w/\TY n0 ρ s.mem U' s'.mem/\∀(i:Nat)c',s'.aZ[i]? =some c'->∃c,s.aZ[i]? =some c/\∀v,cf ρ w c v->cf U' w c' v
def TZ(f:(Ex->St->Prop)->St->Prop)(K:Ex->St->Prop)(ex:Ex)(s:St):Prop:=
 match ex with
 | .normal=>f K s
 | .exit id=>K (.exit id) s
 | .ret=>K .ret s
def Fb(id:Nat)(K:Ex->St->Prop)(ex:Ex)(s:St):Prop:=
 match ex with
 | .normal=>K .normal s
 | .exit kJ=>bB (Nat.beq kJ id) (K .normal s) (K (.exit kJ) s)
 | .ret=>K .ret s
def HG(n0:Nat){α:Type}(J:α->Prop)(S:α->St)(μ:α->Nat)(n:Nat)(K:Ex->St->Prop)(ex:Ex)(s:St):Prop:=
 match ex with
 | .normal=>∃a,J a/\μ a<n/\View n0 s (S a)
 | .exit id=>K (.exit id) s
 | .ret=>K .ret s
def Ja(K:Ex->St->Prop)(e:List CV)(m:Mem):Prop:=K .normal ⟨e,m⟩
def qn:Mem->List Nat->Mem
 |m,[]=>m
 |m,id::r=>qn (aX m id .aU) r
def AF(m:Mem):List Nat->List Value->Prop
 | [],[]=>True
 |id::r,v::vs=>(cF m id=some (.var [.ah (.val v)])/\cu v=true)/\AF m r vs
 |_,_=>False
def rR(as:List (Nat×Nat)):List Value:=as.map λa=>Value.pointer (some ⟨a.1,a.2,none⟩)
def SD(P:Program)(l:Nat)(args:Array Value)(W:World)(R:Ending->World->Prop):Prop:=
 ∃fn tmps assign body,(Instr.yield l args).run P W= .ok (.round l fn tmps assign body) W/\RoundIn Fence.wide 0 P l fn tmps assign body W R
def Ww(P:Program)(gf:Nat)(cs:List Value)(xs:List ByteArray):Prop:=
 (∃fn,P.funcs[gf]? =some fn/\fn.body.isSome=true/\(fn.name== "runtime.NumGoroutine")=false)/\
 ∀(l:Nat)(as:List (Nat×Nat))(W:World)(J:Nat->World->Prop)(Jx:World->Prop),as.length=cs.length->(as.map (·.1)).Nodup->
  (∀(i:Nat)a v,as[i]? =some a->cs[i]? =some v->W.cell? ⟨a.1,a.2,none⟩=some v/\W.frozen? ⟨a.1,a.2,none⟩=false)->
  (∀k W W',J k W->W.heap.size<=W'.heap.size->(∀b,b<W.heap.size->(∀a,a∈as->b≠a.1)->W'.heap[b]? =W.heap[b]?)->W'.os=W.os->W'.tape=W.tape->W'.output=W.output->J k W')->
  (∀W W',Jx W->W.heap.size<=W'.heap.size->(∀b,b<W.heap.size->(∀a,a∈as->b≠a.1)->W'.heap[b]? =W.heap[b]?)->W'.os=W.os->W'.tape=W.tape->W'.output=W.output->Jx W')->
  (∀k y W,xs[k]? =some y->J k W->SD P l #[.string y] W λe W'=>
   (e= .returned (.bool true)/\J (k+1) W'/\W.heap.size<=W'.heap.size/\∀a,a∈as->W'.heap[a.1]? =W.heap[a.1]?)\/(e= .returned (.bool false)/\Jx W'))->
  J 0 W->
  CallsIn Fence.wide 0 P gf (#[.func (.yield l) #[] #[]]++(rR as).toArray) W λe W'=>(∃v,e= .returned v)/\(J xs.length W'\/Jx W')
def aaa(n0:Nat){α:Type}(J:Nat->α->Prop)(S:α->St)(k:Nat)(aZ:List CV)(K:Ex->St->Prop)(ex:Ex)(s:St):Prop:=
 match ex with
 | .normal=>∃a,J (k+1) a/\View n0 ⟨aZ,s.mem⟩ (S a)
 | .exit id=>K (.exit id) ⟨aZ,s.mem⟩
 | .ret=>K .ret ⟨aZ,s.mem⟩
def Ql(P:Program)(bZ:List LO)(K:Ex->St->Prop)(s:St):List nG->Prop
 | []=>True
 | [x]=>vC P bZ x [] (Ja K) s.aZ s.mem
 |x::y::r=>vC P bZ x [] (Ja K) s.aZ s.mem/\Ql P bZ K s (y::r)
def aw(P:Program)(n0:Nat):LC->(Ex->St->Prop)->St->Prop
 | .skip,K,s=>K .normal s
 | .ai ops,K,s=>I9 P ops (Ja K) s.aZ s.mem
 | .bV bZ qM,K,s=>Ql P bZ K s qM
 | .seq a b,K,s=>aw P n0 a (TZ (aw P n0 b) K) s
 | .cond x a b,K,s=>match x.ev s.aZ with
  | .rv (.one (.ah (.val (.bool t))))=>bB t
   (jo (TW x (aF true) s.aZ) λe=>aw P n0 a K ⟨e,s.mem⟩)
   (jo (TW x (aF false) s.aZ) λe=>aw P n0 b K ⟨e,s.mem⟩)
  |_=>False
 | .block id b,K,s=>aw P n0 b (Fb id K) s
 | .loop b,K,s=>∃(α:Type)(J:α->Prop)(S:α->St)(μ:α->Nat),(∃a,J a/\View n0 s (S a))/\∀a,J a->aw P n0 b (HG n0 J S μ (μ a) K) (S a)
 | .exit id,K,s=>K (.exit id) s
 | .ret,K,s=>K .ret s
 | .cX a,K,s=>∃s',View n0 s s'/\aw P n0 a K s'
 | .yO x p la lb,K,s=>∃(gf:Nat)(kI:List Nat)(cs:List Value)(xs:List ByteArray)(α:Type)(J:Nat->α->Prop)(S:α->St),
   x.ev s.aZ= .rv (.one (.fn gf kI))/\AF s.mem kI cs/\(kI.Nodup/\kI≠[])/\Ww P gf cs xs/\(∃a,J 0 a/\View n0 ⟨s.aZ,qn s.mem kI⟩ (S a))/\
   (∀k y a,xs[k]? =some y->J k a->nJ (S a).mem λn1=>aw P n1 la (λex s2=>match ex with
    | .normal=>nJ s2.mem λn2=>aw P n2 lb (aaa n0 J S k (S a).aZ K) s2
    |_=>False) ⟨aX (S a).aZ p (fe y),(S a).mem⟩)/\
   ∀a,J xs.length a->K .normal (S a)
def CG(P:Program)(s:St):List Rv->(List RV->Prop)->Prop
 | [],K=>K []
 | .tmp t::r,K=>ok (CB (kP s.aZ t)) λv=>CG P s r λvs=>K (v::vs)
 | .cell agg n t::r,K=>wu s.aZ s.mem agg n (kP s.aZ t) λv=>ok (CB v) λv=>CG P s r λvs=>K (v::vs)
def T0:List RV->CV
 | [r]=>.rv r
 |rs=>.bx rs
def oR(P:Program)(me:List Rv)(K:CV->Mem->Prop)(ex:Ex)(s:St):Prop:=
 match ex with
 | .exit _=>False
 |_=>CG P s me λvs=>K (T0 vs) s.mem
def body(P:Program)(lf:LF)(args:List CV)(m:Mem)(K:CV->Mem->Prop):Prop:=
 jo (gI args (gH (lf.n-args.length) .undef)) λe=>nJ m λn0=>aw P n0 lf.code (oR P lf.me K) ⟨e,m⟩
abbrev qm(d s:Nat):LO:=⟨some d,.aN (.t s),none⟩
abbrev qu(d:Nat)(i:I):LO:=⟨some d,i,none⟩
abbrev qw(i:I):LO:=⟨none,i,none⟩
abbrev qg(d:Nat)(i:I)(s:Nat)(b:Bool):LO:=⟨some d,i,some (s,b)⟩
abbrev qf(d k s:Nat):LO:=⟨some d,.bY k (.t s),none⟩
abbrev ql(d s:Nat):LO:=⟨some d,.load false 1 (.t s),none⟩
abbrev qL(d n s:Nat):LO:=⟨some d,.load true n (.t s),none⟩
abbrev qi(n:Int):X:= .c (.rv (.one (.ah (.val (.int .i64 n)))))
abbrev qb(b:Bool):X:= .c (.rv (.one (.ah (.val (.bool b)))))
abbrev qe:X:= .c (.rv (.one .aM))
abbrev qd(n:Int):CC:= .ah (.val (.int .i64 n))
abbrev qc(f:Nat)(a:List X):I:= .call (.c (.rv (.one (.fn f [])))) a
instance(n:Nat):OfNat X n:=⟨.t n⟩
abbrev eE:Nat->Nat->nG->nG
  |0,_,t=>t
  |n+1,i,t=>.cons i none (eE n (i+1) t)
theorem aV{α:Type}:∀(l:List α)(i:Nat),cF l i=l[i]?
 | [],_=>by simp[cF]
 |_::_,0=>rfl
 |_::r,k+1=>by simpa[cF]using aV r k
theorem bb{α:Type}:∀(l:List α)(i:Nat)(x:α),aX l i x=l.set i x
 | [],_,_=>rfl
 |_::_,0,_=>rfl
 |a::r,k+1,x=>by simp[aX,bb r k x]
theorem cg{α:Type}:∀(a b:List α),gI a b=a++b
 | [],_=>rfl
 |x::r,b=>by simp[gI,cg r b]
theorem fZ{α:Type}:∀(n:Nat)(x:α),gH n x=List.replicate n x
 |0,_=>rfl
 |n+1,x=>by simp[gH,fZ n x,List.replicate_succ]
theorem fq{α:Type}{β:Sort _}:∀(l:List α)(k:List α->β),jo l k=k l
 | [],_=>rfl
 |x::r,k=>fq r λr'=>k (x::r')
theorem Wx{β:Sort _}(v:CV)(k:CV->β):fV v k=k v:=by
 cases v with
 |rv r=>
  cases r with
  |one c=>rfl
  |agg cs=>exact fq cs _
 |_=>rfl
theorem mh:∀(e:List CV)(i:Nat),kP e i=(e[i]?).getD .aH
 | [],_=>by simp[kP]
 |_::_,0=>rfl
 |_::r,k+1=>by simpa[kP]using mh r k
theorem aW{α:Type}{o:Option α}{K:α->Prop}:ok o K↔∃x,o=some x/\K x:=by
 cases o<;>simp[ok]
theorem cq{t:Bool}{A B:Prop}:bB t A B↔(t=true/\A)\/(t=false/\B):=by
 cases t<;>simp[bB]
theorem CH{β:Sort _}(m0:Mem):∀(m:Mem)(c n:Nat)(k:Nat->β),m0.length=c+m.length->wq m0 m (List.range' c n) k=k m0.length
 | [],c,0,k,_=>by simp[wq]
 | [],c,n+1,k,h=>by simp[wq,adD,h]
 |_::r,c,0,k,h=>by simp[wq]
 |_::r,c,n+1,k,h=>by
  rw[adD,wq];exact CH m0 r (c+1) n k (by simp at h;omega)
theorem gP{β:Sort _}(m:Mem)(k:Nat->β):nJ m k=k m.length:=by have:=CH m m 0 64 k aC;exact this
theorem lv:∀{cs:List CC}{j n:Nat}{l:List CC},jp cs j n=some l->l.length=n/\∀i,i<n->cs[j+i]? =l[i]?
 |cs,0,0,l,h=>by cases cs<;>simp[jp]at h<;>subst h<;>simp
 | [],0,n+1,l,h=>by simp[jp]at h
 | [],j+1,n,l,h=>by cases n<;>simp[jp]at h
 |c::cs,0,n+1,l,h=>by
  simp only[jp]at h;cases hr:jp cs 0 n with
  |none=>simp[hr]at h
  |some l'=>
   simp[hr]at h;subst h;obtain⟨h1,h2⟩:=lv hr;refine⟨by simp[h1],λi hi=>?_⟩
   cases i with
   |zero=>simp
   |succ i=>have:=h2 i (by omega);simpa using this
 |c::cs,j+1,n,l,h=>by
  have h':jp cs j n=some l:=by cases n<;>simpa[jp]using h
  obtain⟨h1,h2⟩:=lv h';refine⟨h1,λi hi=>?_⟩
  have:=h2 i hi;rw[show j+1+i=(j+i)+1 by omega]
  simpa using this
theorem jW:∀{cs:List CC}{j:Nat}{xs l:List CC},gY cs j xs=some l->
  l.length=cs.length/\j+xs.length<=cs.length/\∀i,l[i]? =if j<=i/\i<j+xs.length then xs[i-j]? else cs[i]?
 |cs,0,[],l,h=>by
  cases cs<;>simp[gY]at h<;>subst h
  .simp
  .refine⟨rfl,aC,λi=>?_⟩
   rw[if_neg aC]
 | [],0,x::xs,l,h=>by simp[gY]at h
 | [],j+1,xs,l,h=>by cases xs<;>simp[gY]at h
 |c::cs,0,x::xs,l,h=>by
  simp only[gY]at h;cases hr:gY cs 0 xs with
  |none=>simp[hr]at h
  |some l'=>
   simp[hr]at h;subst h;obtain⟨h1,h2,h3⟩:=jW hr;refine⟨by simp[h1],by simp at h2|-;omega,λi=>?_⟩
   cases i with
   |zero=>simp
   |succ i=>
    have:=h3 i;simp only[aav,true_and,aa6,acW,aar,abv]at this|-;rw[this];simp
 |c::cs,j+1,xs,l,h=>by
  have h':(gY cs j xs).map (c:: ·)=some l:=by
   rw[<-h];cases hr:gY cs j xs<;>cases xs<;>simp[gY,hr]
  cases hr:gY cs j xs with
  |none=>simp[hr]at h'
  |some l'=>
   simp[hr]at h';subst h';obtain⟨h1,h2,h3⟩:=jW hr;refine⟨by simp[h1],by simp;omega,λi=>?_⟩
   cases i with
   |zero=>rw[if_neg om];simp
   |succ i=>
    have:=h3 i;simp only[abv,this];by_cases hc:j<=i/\i<j+xs.length
    .rw[if_pos hc,if_pos om,show i+1-(j+1)=i-j by omega]
    .rw[if_neg hc,if_neg om]
theorem wC:∀{ds:List Dt}{n:Nat}{l:List CC},wn ds n=some l->l.length=n/\∀i,i<n->∃d,ds[i]? =some d/\l[i]? =some (.ah d)
 |ds,0,l,h=>by cases ds<;>simp[wn]at h<;>subst h<;>simp
 | [],n+1,l,h=>by simp[wn]at h
 |d::ds,n+1,l,h=>by
  simp only[wn]at h;cases hr:wn ds n with
  |none=>simp[hr]at h
  |some l'=>
   simp[hr]at h;subst h;obtain⟨h1,h2⟩:=wC hr;refine⟨by simp[h1],λi hi=>?_⟩
   cases i with
   |zero=>exact⟨d,aC,aC⟩
   |succ i=>simpa using h2 i om
theorem wD:∀{l:List CC},jq l=true->∀c,c∈l->∀esz e,c≠.ei esz e
 | [],_,c,hc,_,_=>by simp at hc
 |x::r,h,c,hc,esz,e=>by
  cases x with
  |ei a b=>simp[jq]at h
  |_=>
   rcases aaL.1 hc with rfl|hc
   .simp
   .exact wD (l:=r) (by simpa[jq]using h) c hc esz e
def Bk.yP:Bk->Prop
 | .row _ elems=>∀(i:Nat)cs(j:Nat)c,elems[i]? =some cs->cs[j]? =some c->∀esz e,c≠.ei esz e
 | .mo _ es _=>∀e,e∈es->∀l,e.val≠.ei l
 |_=>True
theorem bm.AG{ρ:bJ}{w:World}{c:CC}{v:Value}(h:bm ρ w .none c v)(esz:Nat)(e:List (List Dt)):c≠.ei esz e:=by rintro rfl;obtain⟨_,_,_,e,_⟩:=h;cases e
theorem bm.wF{ρ:bJ}{w:World}{c:CC}{v:Value}(h:bm ρ w .none c v)(pos:Option (Nat×Nat×Nat)):bm ρ w pos c v:=by
 cases c<;>first|exact h|(obtain⟨_,_,_,e,_⟩:=h;cases e)
theorem bm.Wy{ρ:bJ}{w:World}{pos:Option (Nat×Nat×Nat)}{c:CC}{v:Value}(hn:∀esz e,c≠.ei esz e)(h:bm ρ w pos c v):bm ρ w .none c v:=by
 cases c<;>first|exact h|exact absurd rfl (hn _ _)
def bJ.push(ρ:bJ)(l:wj):bJ:=
 {n:=ρ.n+1,aI:=λk=>if k.id=ρ.n then l else ρ.aI k,S:=ρ.S}
theorem bJ.eU(ρ:bJ)(l:wj){k:gv}(h:k.id<ρ.n):(ρ.push l).aI k=ρ.aI k:=by simp only[bJ.push];rw[if_neg om]
theorem bJ.gi(ρ:bJ)(l:wj):(ρ.push l).aI (.aj ρ.n)=l:=by simp[bJ.push,gv.id]
structure eP(w w':World):Prop where
 heap:∀b,b<w.heap.size->w'.heap[b]? =w.heap[b]?
 size:w.heap.size<=w'.heap.size
 os:w'.os=w.os
 tape:w'.tape=w.tape
 output:w'.output=w.output
theorem eP.alloc(w:World)(o:Obj):eP w (w.alloc o):=⟨λb h=>heap_alloc_old w o b h,aC,rfl,rfl,rfl⟩
theorem eP.drew(w:World):eP w w.drew:=⟨λ_ _=>rfl,Yj _,rfl,rfl,rfl⟩
theorem eP.trans{a b c:World}(h:eP a b)(k:eP b c):eP a c:=
 ⟨λx hx=>(k.heap x (aaJ hx h.size)).trans (h.heap x hx),abF h.size k.size,k.os.trans h.os,k.tape.trans h.tape,k.output.trans h.output⟩
theorem cK.cn{ρ U':bJ}{w w':World}{id:Nat}{bk:Bk}(g:iM ρ w U' w')(hid:id<ρ.n)(hb:bk≠.aU->((∃esz elems,bk= .row esz elems)->0<(ρ.aI (.aj id)).cap)->w'.heap[(ρ.aI (.aj id)).b]? =w.heap[(ρ.aI (.aj id)).b]?)(h:cK ρ w id bk):cK U' w' id bk:=by
 have hl:U'.aI (.aj id)=ρ.aI (.aj id):=g.aI (.aj id) hid;cases bk with
 |aU=>trivial
 |var cs=>
  obtain⟨cur,hc,hd⟩:=h;refine⟨cur,by rw[hl];exact hc.dH (hb aC (by rintro⟨_,_,e⟩;cases e)),λj c hj=>?_⟩
  obtain⟨u,hu,cz⟩:=hd j c hj;exact⟨u,by rw[hl];exact hu,cz.cn g aC⟩
 |row esz elems=>
  obtain⟨h2,h3,h4,h5,b8⟩:=h;refine⟨by rw[hl];exact h2,by rw[hl];exact h3,by rw[hl];exact h4,h5,λcJ=>?_⟩
  rw[hl]at cJ;obtain⟨cur,hc,h1,h6⟩:=b8 cJ;refine⟨cur,by rw[hl];exact hc.dH (hb aC λ_=>cJ),by rw[hl];exact h1,λi cs j c hi hj=>?_⟩
  obtain⟨u,hu,cz⟩:=h6 i cs j c hi hj;exact⟨u,by rw[hl];exact hu,cz.cn g (by rintro kJ i' j' e;cases e;exact hid)⟩
 |mp es=>
  obtain⟨bt,clock,hc,h1,h2⟩:=h;refine⟨bt,clock,⟨by rw[hl,hb aC (by rintro⟨_,_,e⟩;cases e)];exact hc.1,hc.2⟩,h1,λi e hi=>?_⟩
  obtain⟨e',mT,hk,hd⟩:=h2 i e hi;exact⟨e',mT,hk,hd.cn g⟩
 |it cur left=>
  obtain⟨mb,seen,ck,bt,h2,h3,h4,h5,h6⟩:=h;exact⟨mb,seen,ck,bt,by rw[hl,hb aC (by rintro⟨_,_,e⟩;cases e)];exact h2,by rw[hl];exact h3,g.S _ h4,by rw[g.heap mb h4];exact h5,h6⟩
 |mo esz es so=>
  obtain⟨bt,clock,hc,⟨h1,h2⟩,h3⟩:=h;refine⟨bt,clock,⟨by rw[hl,hb aC (by rintro⟨_,_,e⟩;cases e)];exact hc.1,hc.2⟩,⟨h1,λi e hi=>?_⟩,h3⟩
  obtain⟨e',mT,hk,hp,hd⟩:=h2 i e hi;exact⟨e',mT,hk,hp,hd.cn g (λa b c hh=>by cases hh;exact hid)⟩
 |iw mid ip seen=>
  obtain⟨h1,h2,s,h3,h4⟩:=h;exact⟨aaJ h1 g.n,by rw[hl];exact h2,s,by rw[hl,hb aC (by rintro⟨_,_,e⟩;cases e),g.aI (.aj mid) h1];exact h3,h4⟩
theorem qK.cn{ρ U':bJ}{w w':World}(g:iM ρ w U' w'){l:wj}{esz:Nat}{elems:List (List Dt)}(hb:w'.heap[l.b]? =w.heap[l.b]?)(h:qK ρ w l esz elems):qK U' w' l esz elems:=by
 obtain⟨cur,hc,h1,h2,h3⟩:=h;refine⟨cur,hc.dH hb,h1,h2,λi cs j d hi hj=>?_⟩
 obtain⟨u,hu,hd⟩:=h3 i cs j d hi hj;exact⟨u,hu,hd.mono g.S g.heap⟩
theorem aA.eT{ρ:bJ}{m:Mem}{w:World}(hM:aA ρ m w){id:Nat}{bk:Bk}(h:m[id]? =some bk):id<ρ.n:=by rw[hM.n];exact(Ki.1 h).1
theorem aA.SE{ρ:bJ}{m:Mem}{w w':World}{bk:Bk}{l:wj}(hM:aA ρ m w)(hw:eP w w')(HH:Live (ρ.push l) (m++ [bk]) (.aj ρ.n)->w.heap.size<=l.b/\l.b<w'.heap.size)(df:cK (ρ.push l) w' m.length bk)(hf:bk.yP):aA (ρ.push l) (m++ [bk]) w'/\Ext ρ m w (ρ.push l) (m++ [bk]) w':=by
 have hn:=hM.n;have g:iM ρ w (ρ.push l) w':=⟨by simp[bJ.push],λk hk=>ρ.eU l hk,λb hb=>hb,λb hb=>hw.heap b (hM.S b hb)⟩
 have get:∀{id:Nat}{b:Bk},(m++ [bk])[id]? =some b->(id<ρ.n/\m[id]? =some b)\/(id=ρ.n/\b=bk):=by
  intro id b hb;rcases aag id m.length with h|h
  .exact .inl ⟨om,by rwa [aad h]at hb⟩
  .rw[Y5 h]at hb;have:id-m.length=0:=by
    rcases abp (id-m.length)with h0|h0
    .exact h0
    .rw[aaH (by simp;omega)]at hb;cases hb
   rw[this]at hb;exact .inr ⟨om,by simpa using hb.symm⟩
 have ew:∀{id i j esz elems},dZ (m++ [bk]) id i j esz elems->id<ρ.n/\dZ m id i j esz elems:=by
  rintro id i j esz elems ⟨b,hb,ho⟩;rcases get hb with⟨aD,hb⟩|⟨_,rfl⟩
  .exact⟨aD,b,hb,ho⟩
  .cases ho with
   |row hi hj=>exact absurd rfl (hf _ _ _ _ hi hj _ _)
   |mo hi=>exact absurd rfl (hf _ (Tu hi) _)
 have dx:∀k,Live (ρ.push l) (m++ [bk]) k->(k.id<ρ.n/\Live ρ m k)\/k= .aj ρ.n:=by
  intro k hk;cases k with
  |aj id=>
   obtain⟨b,hb,dy,bg⟩:=hk;rcases get hb with⟨aD,hb⟩|⟨rfl,_⟩
   .rw[ρ.eU l (k:= .aj id) aD]at bg;exact .inl ⟨aD,b,hb,dy,bg⟩
   .exact .inr rfl
  |sub id i j=>
   obtain⟨⟨esz,elems,ho⟩,bg⟩:=hk;obtain⟨aD,ho⟩:=ew ho;rw[ρ.eU l (k:= .sub id i j) aD]at bg;exact .inl ⟨aD,⟨esz,elems,ho⟩,bg⟩
 have AH:(ρ.push l).aI (.aj ρ.n)=l:=ρ.gi l;refine⟨⟨by simp[bJ.push,hn],λb hb=>aaJ (hM.S b hb) hw.size,?_,?_,?_,?_⟩,⟨by simp[bJ.push],λid hid=>ρ.eU l hid,λb hb=>hb,λb hb=>.inl hb,?_,?_,hw.size,hw.os,hw.tape,hw.output⟩⟩
 .intro k hk;rcases dx k hk with⟨aD,hk⟩|rfl
  .rw[ρ.eU l aD];exact⟨aaJ (hM.aO k hk).1 hw.size,(hM.aO k hk).2⟩
  .rw[AH];exact⟨(HH hk).2,λhs=>by have:=hM.S _ hs;have:=(HH hk).1;omega⟩
 .intro k k' hk gh he;rcases dx k hk with⟨aD,hk⟩|rfl<;>rcases dx k' gh with⟨oS,gh⟩|rfl
  .rw[ρ.eU l aD,ρ.eU l oS]at he;exact hM.inj k k' hk gh he
  .rw[ρ.eU l aD,AH]at he;have:=(hM.aO k hk).1;have:=(HH gh).1;omega
  .rw[ρ.eU l oS,AH]at he;have:=(hM.aO k' gh).1;have:=(HH hk).1;omega
  .rfl
 .intro id b hb;rcases get hb with⟨aD,hb⟩|⟨rfl,rfl⟩
  .exact(hM.bk id b hb).cn g aD λdy bg=>hw.heap _ (hM.aO (.aj id) ⟨b,hb,dy,bg⟩).1
  .rw[hn];exact df
 .intro id i j esz elems ho bg;obtain⟨aD,ho⟩:=ew ho;rw[ρ.eU l (k:= .sub id i j) aD]at bg|-;exact(hM.ei id i j esz elems ho bg).cn g (hw.heap _ (hM.aO (.sub id i j) ⟨⟨esz,elems,ho⟩,bg⟩).1)
 .intro k hk;rcases dx k hk with⟨aD,hk⟩|rfl
  .exact .inr ⟨k,hk,(by rw[ρ.eU l aD])⟩
  .exact .inl (by rw[AH];exact(HH hk).1)
 .intro b hb _;exact hw.heap b hb
theorem aA.push{ρ:bJ}{m:Mem}{w w':World}{bk:Bk}{l:wj}(hM:aA ρ m w)(hw:eP w w')(h1:w.heap.size<=l.b)(h2:l.b<w'.heap.size)(df:cK (ρ.push l) w' m.length bk)(hf:bk.yP):aA (ρ.push l) (m++ [bk]) w'/\Ext ρ m w (ρ.push l) (m++ [bk]) w':=
 hM.SE hw (λ_=>⟨h1,h2⟩) df hf
structure eV(w w':World)(g:Nat):Prop where
 heap:∀b,b≠g->w'.heap[b]? =w.heap[b]?
 size:w'.heap.size=w.heap.size
 os:w'.os=w.os
 tape:w'.tape=w.tape
 output:w'.output=w.output
theorem aA.LA{ρ:bJ}{m:Mem}{w w':World}{id:Nat}{bk zo:Bk}(hM:aA ρ m w)(hid:m[id]? =some bk)(b9:Live ρ m (.aj id))(hw:eV w w' (ρ.aI (.aj id)).b)(df:iM ρ w ρ w'->cK ρ w' id zo)(kq:∀i j esz e,dZ (m.set id zo) id i j esz e->dZ m id i j esz e):aA ρ (m.set id zo) w'/\Ext ρ m w ρ (m.set id zo) w':=by
 have aD:id<m.length:=(Ki.1 hid).1;have hS:=(hM.aO _ b9).2;have g:iM ρ w ρ w':=⟨Yj _,λ_ _=>rfl,λ_ h=>h,λb hb=>hw.heap b λe=>hS (e▸hb)⟩
 have get:∀{k:Nat}{b:Bk},(m.set id zo)[k]? =some b->(k≠id/\m[k]? =some b)\/(k=id/\b=zo):=by
  intro k b hb;by_cases hk:k=id
  .subst hk;rw[TK aD]at hb;exact .inr ⟨rfl,by simpa using hb.symm⟩
  .rw[U9 (Ne.symm hk)]at hb;exact .inl ⟨hk,hb⟩
 have ew:∀{k i j esz e},dZ (m.set id zo) k i j esz e->dZ m k i j esz e:=by
  intro k i j esz e ho;by_cases hk:k=id
  .subst hk;exact kq i j esz e ho
  .obtain⟨b,hb,ho⟩:=ho;rw[U9 (Ne.symm hk)]at hb;exact⟨b,hb,ho⟩
 have dx:∀k,Live ρ (m.set id zo) k->Live ρ m k:=by
  intro k hk;cases k with
  |aj k=>
   obtain⟨b,hb,hn,bg⟩:=hk;rcases get hb with⟨_,hb⟩|⟨rfl,_⟩
   .exact⟨b,hb,hn,bg⟩
   .exact b9
  |sub k i j=>
   obtain⟨⟨esz,e,ho⟩,bg⟩:=hk;exact⟨⟨esz,e,ew ho⟩,bg⟩
 refine⟨⟨by simp[hM.n],λb hb=>by rw[hw.size];exact hM.S b hb,λk hk=>by rw[hw.size];exact hM.aO k (dx k hk),λk k' hk gh=>hM.inj k k' (dx k hk) (dx k' gh),?_,?_⟩,
  ⟨Yj _,λ_ _=>rfl,λ_ h=>h,λ_ h=>.inl h,λk hk=>.inr ⟨k,dx k hk,rfl⟩,λb _ hk=>hw.heap b λe=>hk _ b9 e.symm,by rw[hw.size];exact Yj _,hw.os,hw.tape,hw.output⟩⟩
 .intro k b hb;rcases get hb with⟨Wz,hb⟩|⟨rfl,rfl⟩
  .refine(hM.bk k b hb).cn g (hM.eT hb) λhn bg=>hw.heap _ λe=>?_
   have:=hM.inj (.aj k) (.aj id) ⟨b,hb,hn,bg⟩ b9 e;injection this with this
   exact Wz this
  .exact df g
 .intro k i j esz e ho bg;have fl:=ew ho;refine(hM.ei k i j esz e fl bg).cn g (hw.heap _ λhe=>?_)
  have:=hM.inj (.sub k i j) (.aj id) ⟨⟨esz,e,fl⟩,bg⟩ b9 he;cases this
theorem bm.cut{ρ:bJ}{w:World}{pos:Option (Nat×Nat×Nat)}{c:CC}{v:Value}{n:Nat}(h:bm ρ w pos c v)(hi:c.dB n):bm {ρ with n:=n} w pos c v:=by
 cases c<;>simp only[bm,CC.dB]at h hi|-
 case ptr=>exact⟨hi,h.2⟩
 case nH=>exact⟨hi,h.2⟩
 case row=>exact⟨hi,h.2⟩
 case map=>exact⟨hi,h.2⟩
 case fn=>exact⟨hi,h.2⟩
 all_goals exact h
theorem dk.cut{ρ:bJ}{w:World}{r:RV}{v:Value}{n:Nat}(h:dk ρ w r v)(hi:r.dB n):dk {ρ with n:=n} w r v:=by
 cases r with
 |one c=>exact bm.cut h hi
 |agg cs=>
  obtain⟨vs,hv,hl,hc⟩:=h;exact⟨vs,hv,hl,λi c hj=>let⟨u,hu,hd⟩:=hc i c hj;⟨u,hu,hd.cut (hi c (Tu hj))⟩⟩
theorem cf.cut{ρ:bJ}{w:World}{c:CV}{v:Value}{n:Nat}(h:cf ρ w c v)(hi:c.dB n):cf {ρ with n:=n} w c v:=by
 cases c with
 |aH=>trivial
 |undef=>exact h
 |rv r=>exact dk.cut h hi
 |bx rs=>
  obtain⟨vs,hv,hl,hc⟩:=h;exact⟨vs,hv,hl,λi c hj=>let⟨u,hu,hd⟩:=hc i c hj;⟨u,hu,hd.cut (hi c (Tu hj))⟩⟩
theorem cK.cut{ρ:bJ}{w:World}{id:Nat}{bk:Bk}{n:Nat}(h:cK ρ w id bk)(hi:bk.dB n):cK {ρ with n:=n} w id bk:=by
 cases bk with
 |aU=>trivial
 |var cs=>
  obtain⟨cur,hc,hd⟩:=h;exact⟨cur,hc,λj c hj=>let⟨u,hu,cz⟩:=hd j c hj;⟨u,hu,cz.cut (hi c (Tu hj))⟩⟩
 |row esz elems=>
  obtain⟨h2,h3,h4,h5,b8⟩:=h;refine⟨h2,h3,h4,h5,λcJ=>?_⟩
  obtain⟨cur,hc,h1,h6⟩:=b8 cJ;exact⟨cur,hc,h1,λi cs j c h7 h8=>let⟨u,hu,cz⟩:=h6 i cs j c h7 h8;⟨u,hu,cz.cut (hi cs (Tu h7) c (Tu h8))⟩⟩
 |mp es=>
  obtain⟨bt,clock,hc,h1,h2⟩:=h;exact⟨bt,clock,hc,h1,λi e h7=>let⟨e',mT,hk,hd⟩:=h2 i e h7;⟨e',mT,hk,hd.cut (hi e (Tu h7))⟩⟩
 |it cur left=>exact h
 |mo esz es so=>
  obtain⟨bt,clock,hc,⟨h1,h2⟩,h3⟩:=h;refine⟨bt,clock,hc,⟨h1,λi e h7=>?_⟩,h3⟩
  obtain⟨e',mT,hk,hp,hd⟩:=h2 i e h7;refine⟨e',mT,hk,hp,hd.cut ?_⟩;have:=hi e (Tu h7);obtain⟨k,v⟩:=e;cases v<;>exact this
 |iw mid ip seen=>exact⟨hi,h.2⟩
theorem mY.spec{m m':Mem}(h:mY m m'):m'.length<=m.length/\∀(i:Nat)b,m'[i]? =some b->∃b0,m[i]? =some b0/\(b=b0\/b= .aU):=by
 induction h with
 |nil m=>exact⟨aC,λi b hb=>by simp at hb⟩
 |cons h hm ih=>
  refine⟨by simp[ih.1],λi b hb=>?_⟩
  cases i with
  |zero=>simp at hb;subst hb;exact⟨_,aC,h⟩
  |succ i=>simpa using ih.2 i b (by simpa using hb)
theorem aA.Mg{ρ:bJ}{m m':Mem}{w:World}(hM:aA ρ m w)(h:mY m m')(Mh:∀b,b∈m'->b.dB m'.length):
  aA {ρ with n:=m'.length} m' w/\(∀k,Live {ρ with n:=m'.length} m' k->Live ρ m k):=by
 have hs:=h.spec.2;have ew:∀{k i j esz e},dZ m' k i j esz e->dZ m k i j esz e:=by
  rintro k i j esz e ⟨b,hb,ho⟩;obtain⟨b0,Jb,rfl|h0⟩:=hs k _ hb
  .exact⟨_,Jb,ho⟩
  .subst h0;cases ho
 have dx:∀k,Live {ρ with n:=m'.length} m' k->Live ρ m k:=by
  intro k hk;cases k with
  |aj k=>
   obtain⟨b,hb,hn,bg⟩:=hk;obtain⟨b0,Jb,rfl|h0⟩:=hs k _ hb
   .exact⟨_,Jb,hn,bg⟩
   .exact absurd h0 hn
  |sub k i j=>
   obtain⟨⟨esz,e,ho⟩,bg⟩:=hk;exact⟨⟨esz,e,ew ho⟩,bg⟩
 refine⟨⟨rfl,hM.S,λk hk=>hM.aO k (dx k hk),λk k' hk gh=>hM.inj k k' (dx k hk) (dx k' gh),λid b hb=>?_,λid i j esz e ho bg=>hM.ei id i j esz e (ew ho) bg⟩,dx⟩
 obtain⟨b0,Jb,rfl|h0⟩:=hs id b hb
 .exact(hM.bk id _ Jb).cut (Mh _ (Tu hb))
 .subst h0;trivial
structure bn(ρ:bJ)(w:World)(aZ:List CV)(tmps:Array Value):Prop where
 size:tmps.size=aZ.length
 jR:∀(i:Nat)c,aZ[i]? =some c->∃v,tmps[i]? =some v/\cf ρ w c v
section
variable {P:Program} {ρ:bJ} {m:Mem} {w:World} {aZ:List CV} {a:Act}
theorem bn.get(hE:bn ρ w aZ a.tmps)(t:Nat):cf ρ w (kP aZ t) (a.tmps.getD t Go.undef):=by
 rw[mh];cases h:aZ[t]? with
 |none=>trivial
 |some c=>
  obtain⟨v,hv,hd⟩:=hE.jR t c h;simpa[abE,hv]using hd
theorem qU{v:Value}{c:CC}(h:wx v=some c):bm ρ w .none c v:=by
 unfold wx at h;split at h
 .simp at h;subst h;exact⟨none,rfl⟩
 .split at h
  .rename_i hp;simp at h;subst h;exact dj.val _ hp
  .cases h
theorem aT(hE:bn ρ w aZ a.tmps){x:Operand}{x':X}(h:bq x=some x'):cf ρ w (x'.ev aZ) (a.eval x):=by
 cases x with
 |tmp t=>simp[bq]at h;subst h;exact hE.get t
 |const v=>
  simp only[bq,aaB]at h;obtain⟨c,hc,rfl⟩:=h;exact qU hc
 |func f=>simp[bq]at h;subst h;exact⟨aC,rfl⟩
 |global g=>simp[bq]at h
theorem ft{t:TypeId}{n:Nat}(h:eN P t=some n):(sizeOf t).run P w= .ok n w:=by simp only[eN,aaB]at h;obtain⟨i,hi,rfl⟩:=h;simp[sizeOf,typeInfo,hi]
theorem pM{t:TypeId}{b:Bool}(h:ec P t=some b):(isAgg t).run P w= .ok b w:=by
 simp only[ec,aaB]at h;obtain⟨d,hd,rfl⟩:=h;simp only[isAgg,Sem.run_bind,run_underlying hd,Result.andThen_ok];cases d<;>rfl
theorem mF(b off j:Nat):(⟨b,off,none⟩:Addr).add j=⟨b,off+j,none⟩:=by
 unfold Addr.add;split<;>simp_all
def nL(ρ:bJ)(w:World)(b off:Nat)(l:List CC):Prop:=
 ∀(i:Nat)c,l[i]? =some c->∃u,w.cell? ⟨b,off+i,none⟩=some u/\bm ρ w .none c u
theorem nL.WA:∀{l:List CC}{b off:Nat},nL ρ w b off l->
  ∃vs:List Value,vs.length=l.length/\(∀j v,vs[j]? =some v->w.cell? ((⟨b,off,none⟩:Addr).add j)=some v)/\(∀(i:Nat)c,l[i]? =some c->∃u,vs[i]? =some u/\bm ρ w .none c u)
 | [],b,off,h=>⟨[],rfl,aC,aC⟩
 |c::l,b,off,h=>by
  obtain⟨u,hu,hd⟩:=h 0 c aC;obtain⟨vs,h1,h2,h3⟩:=nL.WA (l:=l) (b:=b) (off:=off+1) (λi c hi=>by
   have:=h (i+1) c (by simpa using hi)
   rwa [show off+(i+1)=off+1+i by omega]at this)
  refine⟨u::vs,by simp[h1],λj v hj=>?_,λi c' hi=>?_⟩
  .rw[mF];cases j with
   |zero=>simp at hj;subst hj;simpa using hu
   |succ j=>
    have:=h2 j v (by simpa using hj)
    rw[mF]at this;rwa [show off+(j+1)=off+1+j by omega]
  .cases i with
   |zero=>simp at hi;subst hi;exact⟨u,aC,hd⟩
   |succ i=>simpa using h3 i c' (by simpa using hi)
theorem qV{t:TypeId}{agg:Bool}{n:Nat}{b off:Nat}{l:List CC}{cv:CV}(ha:ec P t=some agg)(hs:eN P t=some n)(hl:l.length=n)(hc:nL ρ w b off l)(hm:L8 agg l=some cv):∃v,(loadVar t ⟨b,off,none⟩).run P w= .ok v w/\cf ρ w cv v:=by
 obtain⟨vs,h1,h2,h3⟩:=hc.WA;unfold loadVar;simp only[Sem.run_bind,pM ha,Result.andThen_ok];cases agg with
 |true=>
  simp[L8]at hm;subst hm;have hr:=run_loadCells_list (P:=P) w ⟨b,off,none⟩ vs h2;refine⟨.agg vs.toArray,?_,vs,rfl,h1,h3⟩;simp only[if_true,Sem.run_bind,ft hs,Result.andThen_ok,<-hl,<-h1,hr,Sem.run_pure]
 |false=>
  match l,hm with
  | [c],hm=>
   simp[L8]at hm;subst hm;obtain⟨u,hu,hd⟩:=h3 0 c aC;have:=h2 0 u hu;rw[mF]at this;refine⟨u,?_,hd⟩;simp only[abR,if_false,run_load];rw[show(⟨b,off,none⟩:Addr)=⟨b,off+0,none⟩ by simp,this]
theorem uT(hM:aA ρ m w){t:TypeId}{agg:Bool}{n:Nat}(ha:ec P t=some agg)(hs:eN P t=some n){av:CV}{v:Value}{K:CV->Prop}(h:wu aZ m agg n av K)(hd:cf ρ w av v):∃ad u cv,v= .pointer (some ad)/\(loadVar t ad).run P w= .ok u w/\K cv/\cf ρ w cv u:=by
 unfold wu at h;split at h
 .rename_i id j;obtain⟨aD,rfl⟩:=hd;obtain⟨bk,hb,h⟩:=aW.1 h;rw[aV]at hb;cases bk<;>simp only at h
  rename_i cs;obtain⟨l,hr,h⟩:=aW.1 h;obtain⟨cv,hm,hK⟩:=aW.1 h;obtain⟨hl,ku⟩:=lv hr;obtain⟨cur,b8,cr⟩:=hM.bk id _ hb;have hc:nL ρ w (ρ.aI (.aj id)).b ((ρ.aI (.aj id)).ar+j) l:=by
   intro i c hi;have iU:i<n:=by rw[<-hl];exact(Ki.1 hi).1
   obtain⟨u,hu,cz⟩:=cr (j+i) c ((ku i iU).trans hi);exact⟨u,by rw[b8.cell,<-hu,abh],cz⟩
  obtain⟨u,cP,cz⟩:=qV ha hs hl hc hm;exact⟨_,u,cv,rfl,cP,hK,cz⟩
 .rename_i id esz i j;obtain⟨aD,rfl⟩:=hd;obtain⟨bk,hb,h⟩:=aW.1 h;rw[aV]at hb;cases bk<;>simp only at h
  rename_i oN elems;rcases cq.1 h with⟨he,g1⟩|⟨_,g1⟩
  case inr=>exact g1.elim
  have he:esz=oN:=aau he;subst he;obtain⟨cells,dN,g2⟩:=aW.1 g1;rw[aV]at dN;obtain⟨l,hr,g3⟩:=aW.1 g2;rcases cq.1 g3 with⟨kz,g4⟩|⟨_,g4⟩
  case inr=>exact g4.elim
  obtain⟨cv,hm,hK⟩:=aW.1 g4;obtain⟨hl,ku⟩:=lv hr;obtain⟨h2,h3,h4,h5,Cp⟩:=hM.bk id _ hb;have vZ:=(Ki.1 dN).1;obtain⟨cur,b8,h1,cr⟩:=Cp om;have hc:nL ρ w (ρ.aI (.aj id)).b ((ρ.aI (.aj id)).ar+i*esz+j) l:=by
   intro k c hi;have iU:k<n:=by rw[<-hl];exact(Ki.1 hi).1
   obtain⟨u,hu,cz⟩:=cr i cells (j+k) c dN ((ku k iU).trans hi);exact⟨u,by rw[b8.cell,<-hu,abh _ j k],cz.Wy (wD kz c (Tu hi))⟩
  obtain⟨u,cP,cz⟩:=qV ha hs hl hc hm;exact⟨_,u,cv,rfl,cP,hK,cz⟩
 .rename_i ds;obtain⟨b,off,rfl,hS,cr⟩:=hd;obtain⟨l,hr,h⟩:=aW.1 h;obtain⟨cv,hm,hK⟩:=aW.1 h;obtain⟨hl,ku⟩:=wC hr;have hc:nL ρ w b off l:=by
   intro i c hi;have iU:i<n:=by rw[<-hl];exact(Ki.1 hi).1
   obtain⟨d,vD,yF⟩:=ku i iU;rw[hi]at yF;simp at yF;subst yF;exact cr i d vD
  obtain⟨u,cP,cz⟩:=qV ha hs hl hc hm;exact⟨_,u,cv,rfl,cP,hK,cz⟩
 .exact h.elim
def dh(P:Program)(s:Sem Next)(ρ:bJ)(m:Mem)(w:World)(K:CV->Mem->Prop):Prop:=
 ∃nx v w' cv m' U',s.run P w= .ok nx w'/\(nx= .value v\/(nx= .skip/\v=Go.undef))/\K cv m'/\aA U' m' w'/\cf U' w' cv v/\Ext ρ m w U' m' w'
theorem dh.pure{s:Sem Next}{v:Value}{cv:CV}{K:CV->Mem->Prop}(hM:aA ρ m w)(hr:s.run P w= .ok (.value v) w)(hK:K cv m)(hd:cf ρ w cv v):dh P s ρ m w K:=
 ⟨_,v,w,cv,m,ρ,hr,.inl rfl,hK,hM,hd,Ext.refl _ _ _⟩
theorem bH{v x:Value}(h:cf ρ w (.rv (.one (.ah (.val x)))) v)(hx:x≠.slice none 0 0:=by first|(intro hh;cases hh;done)|assumption|simp):v=x/\cu x=true:=by
 cases h with
 |val v h=>exact⟨rfl,h⟩
 |no a=>exact absurd rfl hx
theorem cA{v:Value}(h:cu v=true):cf ρ w (.rv (.one (.ah (.val v)))) v:=dj.val v h
theorem Qm{t:TypeId}(ht:P.underlying t=some .bool)(neg:Bool)(a b:Bool):
  (binOp (if neg then .neq else .eql) t (.bool a) (.bool b)).run P w= .ok (.bool (match neg with|true=>!(a==b)|false=>a==b)) w:=by
 have h:∀d,(Op.equalIn (d+1) t (.bool a) (.bool b)).run P w= .ok (a==b) w:=λd=>by rw[Op.equalIn];simp[run_underlying ht]
 have h2:(Op.equal t (.bool a) (.bool b)).run P w= .ok (a==b) w:=h 9999;cases neg<;>simp[binOp,h2]
theorem Fc{op:BinOp}{x y v:Value}(h:I7 op x y=some v){t:TypeId}:(binOp op t x y).run P w= .ok v w/\cu v=true:=by
 cases x<;>cases y<;>simp only[I7]at h<;>try(cases h;done)
 case int.int k a k' b=>
  by_cases hk:k=k'
  .subst hk;cases op<;>simp only[decide_true]at h
   case shl=>
    by_cases hb:b<0
    .simp[hb]at h
    .simp[hb]at h;subst h;simp[binOp,Op.shift,hb,cu]
   case shr=>
    by_cases hb:b<0
    .simp[hb]at h
    .simp[hb]at h;subst h;simp[binOp,Op.shift,hb,cu]
   case quo=>
    by_cases hb:b=0
    .simp[hb]at h
    .simp[hb]at h;subst h;simp[binOp,Op.intDiv,hb,cu]
   case rem=>
    by_cases hb:b=0
    .simp[hb]at h
    .simp[hb]at h;subst h;simp[binOp,Op.intDiv,hb,cu]
   all_goals first
    |(cases h;done)
    |(simp only[aaA]at h;subst h;simp[binOp,Op.intArith,Op.intBits,Op.intCmp,cu])
  .cases op<;>simp only[hk,decide_false]at h
   case shl=>
    by_cases hb:b<0
    .simp[hb]at h
    .simp[hb]at h;subst h;simp[binOp,Op.shift,hb,cu]
   case shr=>
    by_cases hb:b<0
    .simp[hb]at h
    .simp[hb]at h;subst h;simp[binOp,Op.shift,hb,cu]
   all_goals(cases h;done)
 case string.string a b=>
  cases op<;>simp only at h<;>try(cases h;done)
  case add=>
   by_cases hb:((a.size+b.size:Nat):Int)>IntKind.i64.max
   .rw[decide_eq_true hb]at h;cases h
   .rw[decide_eq_false hb]at h;simp only[aaA]at h;subst h;refine⟨?_,rfl⟩;simp only[binOp,Op.stringOp];rw[if_neg hb];rfl
  all_goals(simp only[aaA]at h;subst h;simp[binOp,Op.stringOp,cu])
theorem Jc{op:UnOp}{x v:Value}(h:Zo op x=some v):(Op.unary op x).run P w= .ok v w/\cu v=true:=by
 cases x<;>simp only[Zo]at h<;>try(cases h;done)
 all_goals cases op<;>simp only at h<;>try(cases h;done)
 all_goals(simp only[aaA]at h;subst h;simp[Op.unary,Op.intArith,cu])
theorem uU{op:BinOp}{t:TypeId}{x y:Operand}{a b:Value}(ha:cu a=true)(hn:a≠.nilIface):(eqGuard op t x y a b).run P w= .ok () w:=by
 unfold eqGuard;cases op<;>simp
 all_goals(cases a<;>simp_all[cu])
end
section
variable {P:Program} {ρ:bJ} {m:Mem} {w:World} {aZ:List CV} {a:Act} {K:CV->Mem->Prop}
theorem jX{cv:CV}{v:Value}{cs:List CC}(h:cellsOf cv=some cs)(hd:cf ρ w cv v):
  v.cells.size=cs.length/\(∀(i:Nat)c,cs[i]? =some c->∃u,v.cells[i]? =some u/\bm ρ w .none c u)/\(∀u∈v.cells.toList,u.oneCell'=true):=by
 unfold cellsOf at h;split at h
 .rename_i c;simp at h;subst h;have h1:v.oneCell'=true:=bm.one hd;have hc:v.cells= #[v]:=by cases v<;>first|rfl|simp[Value.oneCell']at h1
  refine⟨by simp[hc],λi c' hi=>?_,by rw[hc];simpa using h1⟩
  cases i with
  |zero=>simp at hi;subst hi;exact⟨v,by simp[hc],hd⟩
  |succ i=>simp at hi
 .rename_i fk;simp at h;subst h;obtain⟨vs,rfl,hl,hc⟩:=hd;refine⟨by simp[Value.cells,hl],λi c hi=>?_,λu hu=>?_⟩
  .obtain⟨u,hu,cz⟩:=hc i c hi;exact⟨u,by simpa[Value.cells]using hu,cz⟩
  .simp only[Value.cells]at hu;obtain⟨i,hi,rfl⟩:=adr hu;have eQ:i<vs.length:=by simpa using hi
   obtain⟨u,WB,cz⟩:=hc i (fk[i]'(by omega)) (vR om)
   rw[vR eQ]at WB;simp at WB;simpa[WB]using cz.one
 .cases h
theorem fu:∀{vs:List Value}{cs:List CC},mV vs=some cs->vs.length=cs.length/\∀(i:Nat)c,cs[i]? =some c->∃u,vs[i]? =some u/\bm ρ w .none c u
 | [],cs,h=>by simp[mV]at h;subst h;simp
 |v::r,cs,h=>by
  simp only[mV,U8,Pu]at h;obtain⟨c,hc,l,hl,h⟩:=h;simp at h;subst h;obtain⟨h1,h2⟩:=fu hl;refine⟨by simp[h1],λi c' hi=>?_⟩
  cases i with
  |zero=>simp at hi;subst hi;exact⟨v,aC,qU hc⟩
  |succ i=>simpa using h2 i c' (by simpa using hi)
theorem CI(hM:aA ρ m w){cs:List CC}{cells:Array Value}{ty:TypeId}{w':World}(hw:w'=w.alloc (.cells cells ty)\/w'=w.drew.alloc (.cells cells ty))(hd:∀(i:Nat)c,cs[i]? =some c->∃u,cells[i]? =some u/\bm ρ w .none c u):
  ∃U',aA U' (m++ [.var cs]) w'/\Ext ρ m w U' (m++ [.var cs]) w'/\cf U' w' (.rv (.one (.ptr m.length 0))) (.pointer (some ⟨w.heap.size,0,none⟩)):=by
 have SF:eP w w':=by
  rcases hw with rfl|rfl
  .exact eP.alloc w _
  .exact(eP.drew w).trans (eP.alloc w.drew _)
 have b8:mE True w' w.heap.size cells:=by
  rcases hw with rfl|rfl
  .exact mE.new w cells ty
  .exact mE.new w.drew cells ty
 have dq:w.heap.size<w'.heap.size:=b8.lt;let l:wj:=⟨w.heap.size,0,0,0⟩;have hn:=hM.n;have bQ:(ρ.push l).aI (.aj m.length)=l:=by rw[<-hn];exact ρ.gi l
 have g:iM ρ w (ρ.push l) w':=⟨by simp[bJ.push],λk hk=>ρ.eU l hk,λb hb=>hb,λb hb=>SF.heap b (hM.S b hb)⟩
 have hb:cK (ρ.push l) w' m.length (.var cs):=by
  refine⟨cells,by rw[bQ];exact b8,λj c hj=>?_⟩
  obtain⟨u,hu,cz⟩:=hd j c hj;exact⟨u,by rw[bQ];simpa[l]using hu,cz.cn g aC⟩
 obtain⟨h1,h2⟩:=hM.push (l:=l) SF (Yj _) dq hb trivial;refine⟨_,h1,h2,by simp[bJ.push,hn],?_⟩
 rw[bQ]
theorem Mi(hM:aA ρ m w){esz cap:Nat}{elems:List (List CC)}{cells:Array Value}{ty:TypeId}{w':World}(hw:w'=w.alloc (.cells cells ty)\/w'=w.drew.alloc (.cells cells ty))(dq:cap*esz<=cells.size)(hlen:elems.length<=cap)(bg:cap<=maxLen)(ol:∀cs,cs∈elems->cs.length=esz)(hd:∀(i:Nat)cs(j:Nat)c,elems[i]? =some cs->cs[j]? =some c->∃u,cells[i*esz+j]? =some u/\bm ρ w .none c u):
  ∃U',aA U' (m++ [.row esz elems]) w'/\Ext ρ m w U' (m++ [.row esz elems]) w'/\
   cf U' w' (.rv (.one (.row m.length esz 0 none))) (.slice (some ⟨w.heap.size,0,none⟩) elems.length cap):=by
 have SF:eP w w':=by
  rcases hw with rfl|rfl
  .exact eP.alloc w _
  .exact(eP.drew w).trans (eP.alloc w.drew _)
 have b8:mE (esz=1) w' w.heap.size cells:=by
  rcases hw with rfl|rfl
  .exact mE.new w cells ty
  .exact mE.new w.drew cells ty
 have aD:w.heap.size<w'.heap.size:=b8.lt;let l:wj:=⟨w.heap.size,0,elems.length,cap⟩;have hn:=hM.n;have bQ:(ρ.push l).aI (.aj m.length)=l:=by rw[<-hn];exact ρ.gi l
 have g:iM ρ w (ρ.push l) w':=⟨by simp[bJ.push],λk hk=>ρ.eU l hk,λb hb=>hb,λb hb=>SF.heap b (hM.S b hb)⟩
 have hb:cK (ρ.push l) w' m.length (.row esz elems):=by
  refine⟨by rw[bQ],by rw[bQ];exact hlen,by rw[bQ];exact bg,ol,λ_=>⟨cells,by rw[bQ];exact b8,by rw[bQ];simpa[l]using dq,λi cs j c hi hj=>?_⟩⟩
  obtain⟨u,hu,cz⟩:=hd i cs j c hi hj;exact⟨u,by rw[bQ];simpa[l]using hu,(cz.cn g aC).wF _⟩
 obtain⟨h1,h2⟩:=hM.push (l:=l) SF (Yj _) aD hb (λi cs j c hi hj=>by obtain⟨u,hu,cz⟩:=hd i cs j c hi hj;exact cz.AG)
 refine⟨_,h1,h2,by simp[bJ.push,hn],?_⟩
 rw[bQ];refine⟨aC,aC,hlen,bg,_,rfl,λ_=>?_⟩
 simp[l]
theorem CJ(hM:aA ρ m w){t:TypeId}{z:List CC}(hz:ek P t=some z)(h:step P (.alloc z) aZ m K):
  dh P (do pure (Next.value (<-Instr.alloc t true (.tuple #[])))) ρ m w K:=by
 simp only[ek,U8,Pu]at hz;obtain⟨i,hi,v,hv,hc⟩:=hz;obtain⟨hl,hd⟩:=fu (ρ:=ρ) (w:=w) hc;obtain⟨U',h1,h2,h3⟩:=CI hM (ty:=t) (cells:=v.cells) (.inl rfl) (λi c hi=>by
  obtain⟨u,hu,cz⟩:=hd i c hi;exact⟨u,by simpa using hu,cz⟩)
 simp only[step,gP,cg]at h;refine⟨_,_,_,_,_,U',?_,.inl rfl,h,h1,h3,h2⟩;simp[Instr.alloc,zeroValue,typeInfo,hi,hv,newVar,newRow]
theorem Jd(hM:aA ρ m w)(hE:bn ρ w aZ a.tmps){t:TypeId}{x:Operand}{x':X}(hx:bq x=some x')(h:step P (.box x') aZ m K):
  dh P (do pure (Next.value (<-Instr.box t (a.eval x)))) ρ m w K:=by
 simp only[step]at h;obtain⟨cs,eL,h⟩:=aW.1 h;obtain⟨hl,hd,_⟩:=jX eL (aT hE hx);obtain⟨U',h1,h2,h3⟩:=CI hM (ty:=t) (cells:=(a.eval x).cells) (.inl rfl) hd;simp only[gP,cg]at h;refine⟨_,_,_,_,_,U',?_,.inl rfl,h,h1,h3,h2⟩;simp[Instr.box,newVar,newRow]
theorem tG(off:Nat):∀(vs:List Value)(k:Nat)(cells:Array Value),
  let r:=(vs.zipIdx k).foldl (λ(cs:Array Value)(p:Value×Nat)=>cs.setIfInBounds (off+p.2) p.1) cells
  r.size=cells.size/\(off+k+vs.length<=cells.size->∀i,r[i]? =if off+k<=i/\i<off+k+vs.length then vs[i-(off+k)]? else cells[i]?)
 | [],k,cells=>by simp;intro _ i h1 h2;omega
 |v::r,k,cells=>by
  simp only[List.zipIdx_cons,List.foldl_cons];obtain⟨h1,h2⟩:=tG off r (k+1) (cells.setIfInBounds (off+k) v);refine⟨by rw[h1];simp,λhle i=>?_⟩
  simp only[aar]at hle;rw[h2 (by simp;omega) i]
  by_cases hc:off+(k+1)<=i/\i<off+(k+1)+r.length
  .rw[if_pos hc,if_pos (by simp;omega)]
   rw[show i-(off+k)=(i-(off+(k+1)))+1 by omega]
   simp
  .rw[if_neg hc];by_cases he:i=off+k
   .subst he;rw[if_pos aC];simp only[ac6,acK];rw[aci];simp;omega
   .rw[if_neg (by simp;omega),aci,if_neg om]
def Cells(ρ:bJ)(w:World)(cs:List CC)(cells:Array Value):Prop:=
 cells.size=cs.length/\∀(i:Nat)c,cs[i]? =some c->∃u,cells[i]? =some u/\bm ρ w .none c u
theorem CK{place:Nat->Option (Nat×Nat)}{i off sz:Nat}{v:Value}{rest:List (Nat×Value)}{z z' cs:List CC}{cells:Array Value}(hp:place i=some (off,sz))(hz:Cells ρ w z cells)(hv:v.cells.size=sz)(iB:cs.length=sz)(hd:∀(i:Nat)c,cs[i]? =some c->∃u,v.cells[i]? =some u/\bm ρ w .none c u)(hw:gY z off cs=some z'):∃fB,Instr.fill place cells ((i,v)::rest)=Instr.fill place fB rest/\Cells ρ w z' fB:=by
 obtain⟨h1,h2,h3⟩:=jW hw;refine⟨(v.cells.zipIdx.foldl (λcs(p:Value×Nat)=>cs.setIfInBounds (off+p.2) p.1) cells),?_,?_⟩
 .rw[Instr.fill,hp];simp only;rw[if_neg (by rw[hz.1];simp;omega)]
 .have hf:=tG off v.cells.toList 0 cells;simp only[ac8]at hf;have he:v.cells.zipIdx.foldl (λcs(p:Value×Nat)=>cs.setIfInBounds (off+p.2) p.1) cells=(v.cells.toList.zipIdx 0).foldl (λ(cs:Array Value)(p:Value×Nat)=>cs.setIfInBounds (off+p.2) p.1) cells:=by rw[<-Array.foldl_toList];simp
  rw[he];refine⟨by rw[hf.1,hz.1,h1],λk c hk=>?_⟩
  rw[hf.2 (by rw[hz.1];simp;omega) k]
  rw[h3 k]at hk;have hlen:v.cells.toList.length=cs.length:=by simp[hv,iB]
  rw[hlen];by_cases hc:off<=k/\k<off+cs.length
  .rw[if_pos hc]at hk|-;obtain⟨u,hu,cz⟩:=hd _ c hk;exact⟨u,by simpa using hu,cz⟩
  .rw[if_neg hc]at hk|-;exact hz.2 k c hk
theorem uV(hE:bn ρ w aZ a.tmps){fs:Array Field}{place:Nat->Option (Nat×Nat)}(jY:∀i f,fs[i]? =some f->∀n,eN P f.type=some n->place i=some (f.offset,n)):
  ∀{ps:List (Nat×Operand)}{oJ:List (Nat×Nat×X)}{z z':List CC}{cells:Array Value},mW P fs ps=some oJ->oM aZ z oJ=some z'->Cells ρ w z cells->
   ∃fB,Instr.fill place cells (ps.map λp=>(p.1,a.eval p.2))=some fB/\Cells ρ w z' fB
 | [],oJ,z,z',cells,hp,hf,hz=>by simp[mW]at hp;subst hp;simp[oM]at hf;subst hf;exact⟨cells,rfl,hz⟩
 |(i,x)::r,oJ,z,z',cells,hp,hf,hz=>by
  simp only[mW,U8,Pu]at hp;obtain⟨f,hfi,n,hn,x',hx,r',hr,hp⟩:=hp;simp at hp;subst hp;simp only[oM]at hf;split at hf
  .rename_i cs eL;split at hf
   .rename_i hlen;have hlen:cs.length=n:=aau hlen;split at hf
    .rename_i z1 P0;obtain⟨h1,h2,_⟩:=jX eL (aT hE hx);obtain⟨T1,he,Cq⟩:=CK (rest:=r.map λp=>(p.1,a.eval p.2)) (jY i f hfi n hn) hz (h1.trans hlen) hlen h2 P0
     obtain⟨fB,mT,rS⟩:=uV hE jY hr hf Cq;exact⟨fB,by rw[aaR,he,mT],rS⟩
    .cases hf
   .cases hf
  .cases hf
theorem uW(hE:bn ρ w aZ a.tmps){sz:Nat}{place:Nat->Option (Nat×Nat)}(jY:∀i,place i=some (i*sz,sz)):
  ∀{ps:List (Nat×Operand)}{oJ:List (Nat×Nat×X)}{z z':List CC}{cells:Array Value},ld sz ps=some oJ->oM aZ z oJ=some z'->Cells ρ w z cells->
   ∃fB,Instr.fill place cells (ps.map λp=>(p.1,a.eval p.2))=some fB/\Cells ρ w z' fB
 | [],oJ,z,z',cells,hp,hf,hz=>by simp[ld]at hp;subst hp;simp[oM]at hf;subst hf;exact⟨cells,rfl,hz⟩
 |(i,x)::r,oJ,z,z',cells,hp,hf,hz=>by
  simp only[ld,U8,Pu]at hp;obtain⟨x',hx,r',hr,hp⟩:=hp;simp at hp;subst hp;simp only[oM]at hf;split at hf
  .rename_i cs eL;split at hf
   .rename_i hlen;have hlen:cs.length=sz:=aau hlen;split at hf
    .rename_i z1 P0;obtain⟨h1,h2,_⟩:=jX eL (aT hE hx);obtain⟨T1,he,Cq⟩:=CK (rest:=r.map λp=>(p.1,a.eval p.2)) (jY i) hz (h1.trans hlen) hlen h2 P0
     obtain⟨fB,mT,rS⟩:=uW hE jY hr hf Cq;exact⟨fB,by rw[aaR,he,mT],rS⟩
    .cases hf
   .cases hf
  .cases hf
theorem Fd{t:TypeId}{z:List CC}(hz:ek P t=some z):∃v,(zeroValue t).run P w= .ok v w/\Cells ρ w z v.cells:=by
 simp only[ek,U8,Pu]at hz;obtain⟨i,hi,v,hv,hc⟩:=hz;obtain⟨hl,hd⟩:=fu (ρ:=ρ) (w:=w) hc;refine⟨v,by simp[zeroValue,typeInfo,hi,hv],by simpa using hl,λi c hi=>?_⟩
 obtain⟨u,hu,cz⟩:=hd i c hi;exact⟨u,by simpa using hu,cz⟩
theorem HI{cs:List CC}{cells:Array Value}(h:Cells ρ w cs cells):cf ρ w (.rv (.agg cs)) (.agg cells):=
 ⟨cells.toList,aC,by simpa using h.1,λi c hi=>let⟨u,hu,hd⟩:=h.2 i c hi;⟨u,by simpa using hu,hd⟩⟩
end
section
variable {P:Program} {ρ:bJ} {m:Mem} {w:World} {aZ:List CV} {a:Act} {K:CV->Mem->Prop}
theorem CL{α β:Type}{f:α->Option β}:∀{l:List α}{r:List β},l.mapM f=some r->∀(i:Nat)x,l[i]? =some x->∃y,f x=some y/\r[i]? =some y
 | [],r,h,i,x,hx=>by simp at hx
 |a::l,r,h,i,x,hx=>by
  simp only[List.mapM_cons,U8,Pu,Option.pure_def]at h;obtain⟨y,hy,ys,hys,h⟩:=h;simp at h;subst h;cases i with
  |zero=>simp at hx;subst hx;exact⟨y,hy,aC⟩
  |succ i=>simpa using CL hys i x (by simpa using hx)
theorem uX(hM:aA ρ m w)(hE:bn ρ w aZ a.tmps){t:TypeId}{ps:Array (Nat×Operand)}{z:List CC}{oJ:List (Nat×Nat×X)}(hz:ek P t=some z)(hp:(∃fs,P.underlying t=some (.struct fs)/\(fs.toList.mapM (λf=>(P.info? f.type).map λi=>(f.offset,i.size))).isSome=true/\mW P fs ps.toList=some oJ)\/
   (∃n e sz,P.underlying t=some (.array n e)/\eN P e=some sz/\ld sz ps.toList=some oJ))(h:step P (.build z oJ) aZ m K):dh P (do pure (Next.value (<-Instr.build t (ps.map λ(i,x)=>(i,a.eval x))))) ρ m w K:=by
 simp only[step]at h;obtain⟨z',hf,hK⟩:=aW.1 h;have EL:=hz;simp only[ek,U8,Pu]at hz;obtain⟨i,hi,v,hv,hc⟩:=hz;obtain⟨hl,hd⟩:=fu (ρ:=ρ) (w:=w) hc;have dN:Cells ρ w z v.cells:=⟨by simpa using hl,λi c hi=>by
  obtain⟨u,hu,cz⟩:=hd i c hi;exact⟨u,by simpa using hu,cz⟩⟩
 have key:∃cells,P.built t (ps.map λ(i,x)=>(i,a.eval x)).toList=some cells/\Cells ρ w z' cells:=by
  rcases hp with⟨fs,hu,f4,Zr⟩|⟨n,e,sz,hu,dq,Zr⟩
  .obtain⟨places,jY⟩:=Option.isSome_iff_exists.1 f4;obtain⟨cells,h1,h2⟩:=uV hE (fs:=fs) (place:=λi=>places.toArray[i]?) (λi f hfi n hn=>by
    obtain⟨y,hy,hr⟩:=CL jY i f (by simpa using hfi)
    simp only[eN,aaB]at hn hy;obtain⟨i1,Je,rfl⟩:=hn;obtain⟨i2,eW,rfl⟩:=hy;rw[Je]at eW;cases eW;simpa using hr) Zr hf dN
   refine⟨cells,?_,h2⟩;unfold Program.built;simp only[hi,hu,hv,jY];simpa using h1
  .obtain⟨cells,h1,h2⟩:=uW hE (sz:=sz) (place:=λi=>some (i*sz,sz)) (λi=>rfl) Zr hf dN
   refine⟨cells,?_,h2⟩;simp only[eN,aaB]at dq;obtain⟨ie,lY,rfl⟩:=dq;unfold Program.built;simp only[hi,hu,hv,lY];simpa using h1
 obtain⟨cells,hb,eL⟩:=key;refine dh.pure hM (v:= .agg cells) ?_ hK (HI eL);rw[Sem.run_bind,run_build w t _ cells hb];rfl
theorem Fe(hM:aA ρ m w)(hE:bn ρ w aZ a.tmps){t:TypeId}{x:Operand}{x':X}{agg:Bool}{n:Nat}(ha:ec P t=some agg)(hs:eN P t=some n)(hx:bq x=some x')(h:step P (.load agg n x') aZ m K):dh P (do pure (Next.value (<-Instr.loadAt t (a.eval x)))) ρ m w K:=by
 simp only[step]at h;obtain⟨ad,u,cv,hv,hr,hK,hd⟩:=uT hM ha hs h (aT hE hx);refine dh.pure hM (v:=u) ?_ hK hd;rw[hv];simp[Instr.loadAt,Instr.sureAddr,hr]
theorem nM{mk:Prop}(g o:Nat):∀(vs:List Value)(i:Nat)(cur:Array Value)(w:World),mE mk w g cur->o+i+vs.length<=cur.size->(∀v∈vs,v.oneCell'=true)->
  ∃w' gZ,(storeCells ⟨g,o,none⟩ vs i).run P w= .ok () w'/\mE mk w' g gZ/\eV w w' g/\gZ.size=cur.size/\
   ∀k,gZ[k]? =if o+i<=k/\k<o+i+vs.length then vs[k-(o+i)]? else cur[k]?
 | [],i,cur,w,hc,_,_=>⟨w,cur,rfl,hc,⟨λ_ _=>rfl,rfl,rfl,rfl,rfl⟩,rfl,λk=>by rw[if_neg aC]⟩
 |v::r,i,cur,w,hc,hl,h1=>by
  simp only[aar]at hl;have hi:o+i<cur.size:=om;have jr:w.cell? ⟨g,o+i,none⟩=some cur[o+i]:=by rw[hc.cell];simp[hi]
  have aac:=hc.qJ hi;have lZ:(store ((⟨g,o,none⟩:Addr).add i) v).run P w= .ok () (w.setCell ⟨g,o+i,none⟩ v):=by rw[mF,run_store P w _ v _ (h1 v aC),jr];simp[aac]
  have Cq:mE mk (w.setCell ⟨g,o+i,none⟩ v) g (cur.setIfInBounds (o+i) v):=by
   obtain⟨ty,fr,hb,hf⟩:=hc;refine⟨ty,fr,?_,by simpa using hf⟩
   simp[World.setCell,abf,hb]
  have AI:eV w (w.setCell ⟨g,o+i,none⟩ v) g:=⟨λb hb=>by simp[World.setCell,abf,Ne.symm hb],aC,rfl,rfl,rfl⟩
  obtain⟨w',gZ,hr,rS,ht,dq,hk⟩:=nM g o r (i+1) _ _ Cq (by simp;omega) (λx hx=>h1 x (by simp[hx]))
  refine⟨w',gZ,?_,rS,⟨λb hb=>(ht.heap b hb).trans (AI.heap b hb),ht.size.trans AI.size,ht.os,ht.tape,ht.output⟩,by simpa using dq,λk=>?_⟩
  .simp only[storeCells,Sem.run_bind,lZ,Result.andThen_ok];exact hr
  .rw[hk k];simp only[aar];by_cases hb:o+(i+1)<=k/\k<o+(i+1)+r.length
   .rw[if_pos hb,if_pos om,show k-(o+i)=(k-(o+(i+1)))+1 by omega]
    simp
   .rw[if_neg hb,aci];by_cases he:o+i=k
    .subst he;rw[if_pos rfl,if_pos om];simp
    .rw[if_neg he,if_neg om]
theorem CM(hM:aA ρ m w)(hE:bn ρ w aZ a.tmps){t:TypeId}{n:Nat}{p x:Operand}{p' x':X}(hs:eN P t=some n)(HK:n≠0)(hp:bq p=some p')(hx:bq x=some x')(h:step P (.store n p' x') aZ m K):dh P (do Instr.storeAt t (a.eval p) (a.eval x);pure Next.skip) ρ m w K:=by
 simp only[step]at h;obtain⟨xs,hxs,h⟩:=aW.1 h;rcases cq.1 h with⟨hn,h⟩|⟨_,h⟩
 case inr=>exact h.elim
 have hn:xs.length=n:=aau hn;obtain⟨c1,c2,c3⟩:=jX hxs (aT hE hx);have Zs:=aT hE hp;generalize a.eval p=pv at Zs;generalize p'.ev aZ=pc at Zs h;generalize a.eval x=xv at c1 c2 c3;have sv:∀ad:Addr,Instr.storeAt t (.pointer (some ad)) xv=storeVar t ad xv:=λad=>rfl
 have run:∀{mk:Prop}(b off:Nat)(cur:Array Value),mE mk w b cur->off+xs.length<=cur.size->∃w' gZ,(storeVar t ⟨b,off,none⟩ xv).run P w= .ok () w'/\mE mk w' b gZ/\eV w w' b/\gZ.size=cur.size/\
   ∀k,gZ[k]? =if off<=k/\k<off+xs.length then xv.cells[k-off]? else cur[k]? :=by
  intro mk b off cur hc hle;obtain⟨w',gZ,h1,h2,h3,h4,h5⟩:=nM (P:=P) b off xv.cells.toList 0 cur w hc (by simp[c1];omega) c3
  refine⟨w',gZ,?_,h2,h3,h4,λk=>?_⟩
  .unfold storeVar;rw[Sem.run_bind,ft hs];simp only[Result.andThen_ok];rw[if_neg (by rw[c1,hn];simp)]
   simpa using h1
  .rw[h5 k];simp[c1]
 split at h
 .rename_i id j;obtain⟨aD,rfl⟩:=Zs;obtain⟨bk,hb,h⟩:=aW.1 h;rw[aV]at hb;cases bk<;>simp only at h
  rename_i cs;obtain⟨fk,hw,hK⟩:=aW.1 h;obtain⟨w1,w2,w3⟩:=jW hw;obtain⟨cur,b8,cr⟩:=hM.bk id _ hb;rw[bb]at hK;have kU:(ρ.aI (.aj id)).ar+j+xs.length<=cur.size:=by obtain⟨u,hu,_⟩:=cr (j+xs.length-1) _ (vR om);have:=(aaF.1 hu).1;omega
  obtain⟨w',gZ,hr,rS,ht,dq,hk⟩:=run (ρ.aI (.aj id)).b ((ρ.aI (.aj id)).ar+j) cur b8 kU;obtain⟨jl,hX⟩:=hM.LA (zo:= .var fk) hb ⟨_,hb,aC,by rintro⟨_,_,e⟩;cases e⟩ ht (λg=>⟨gZ,rS,λk c Qn=>by
   rw[w3 k]at Qn;rw[hk];by_cases iU:j<=k/\k<j+xs.length
   .rw[if_pos iU]at Qn;rw[if_pos om];obtain⟨u,hu,cz⟩:=c2 _ c Qn;exact⟨u,by rw[<-hu];congr 1;omega,cz.cn g aC⟩
   .rw[if_neg iU]at Qn;rw[if_neg om];obtain⟨u,hu,cz⟩:=cr k c Qn;exact⟨u,hu,cz.cn g aC⟩⟩) (by
   rintro i' j' esz e ⟨b2,fK,ib⟩;rw[TK (by rw[<-hM.n];exact aD)]at fK
   cases fK;cases ib)
  refine⟨.skip,Go.undef,w',.undef,_,ρ,?_,.inr ⟨rfl,rfl⟩,hK,jl,rfl,hX⟩;rw[sv,Sem.run_bind,hr];rfl
 .rename_i id esz i j;obtain⟨aD,rfl⟩:=Zs;obtain⟨bk,hb,h⟩:=aW.1 h;rw[aV]at hb;cases bk<;>simp only at h
  rename_i oN elems;rcases cq.1 h with⟨he,h⟩|⟨_,h⟩
  case inr=>exact h.elim
  have he:esz=oN:=aau he;obtain⟨cells,dN,h⟩:=aW.1 h;rw[aV]at dN;rcases cq.1 h with⟨kz,h⟩|⟨_,h⟩
  case inr=>exact h.elim
  obtain⟨fB,hw,hK⟩:=aW.1 h;obtain⟨w1,w2,w3⟩:=jW hw;obtain⟨h2,h3,h4,h5,Cp⟩:=hM.bk id _ hb;have vZ:=(Ki.1 dN).1;have cJ:0<(ρ.aI (.aj id)).cap:=om;obtain⟨cur,b8,h1,cr⟩:=Cp cJ;rw[bb,bb]at hK;subst he;have iB:cells.length=esz:=h5 _ (Tu dN);have hi:i<elems.length:=(Ki.1 dN).1;have hmul:i*esz+esz<=(ρ.aI (.aj id)).cap*esz:=by have:(i+1)*esz<=(ρ.aI (.aj id)).cap*esz:=aa8 _ om;rwa [abk,ab4]at this
  obtain⟨w',gZ,hr,rS,ht,dq,hk⟩:=run (ρ.aI (.aj id)).b ((ρ.aI (.aj id)).ar+i*esz+j) cur b8 om;obtain⟨jl,hX⟩:=hM.LA (zo:= .row esz (elems.set i fB)) hb ⟨_,hb,aC,λ_=>cJ⟩ ht (λg=>⟨by simpa using h2,h3,h4,λcs eL=>by
    rcases aaQ eL with hm|rfl
    .exact h5 cs hm
    .rw[w1,iB],λ_=>⟨gZ,rS,by rw[dq];exact h1,λi' cs j' c eQ oB=>by
   rw[hk];by_cases P1:i=i'
   .subst P1;rw[TK hi]at eQ;simp only[aaA]at eQ;subst eQ;rw[w3 j']at oB;by_cases iU:j<=j'/\j'<j+xs.length
    .rw[if_pos iU]at oB;rw[if_pos om];obtain⟨u,hu,cz⟩:=c2 _ c oB;exact⟨u,by rw[<-hu];congr 1;omega,(cz.cn g aC).wF _⟩
    .rw[if_neg iU]at oB;rw[if_neg om];obtain⟨u,hu,cz⟩:=cr i cells j' c dN oB;exact⟨u,hu,cz.cn g (by rintro _ _ _ e;cases e;exact aD)⟩
   .rw[U9 P1]at eQ;obtain⟨u,hu,cz⟩:=cr i' cs j' c eQ oB;have aes:j'<esz:=by rw[<-h5 _ (Tu eQ)];exact(Ki.1 oB).1
    have dy:¬((ρ.aI (.aj id)).ar+i*esz+j<=(ρ.aI (.aj id)).ar+i'*esz+j'/\(ρ.aI (.aj id)).ar+i'*esz+j'<(ρ.aI (.aj id)).ar+i*esz+j+xs.length):=by
     rcases Nat.lt_or_gt_of_ne P1 with oS|oS
     .have:(i+1)*esz<=i'*esz:=aa8 _ oS;rw[abk,ab4]at this;omega
     .have:(i'+1)*esz<=i*esz:=aa8 _ oS;rw[abk,ab4]at this;omega
    rw[if_neg dy];exact⟨u,hu,cz.cn g (by rintro _ _ _ e;cases e;exact aD)⟩⟩⟩) (by
   rintro i' j' rP e ⟨b2,fK,ib⟩;rw[TK (by rw[<-hM.n];exact aD)]at fK
   cases fK;obtain⟨Zt,eW,l4⟩:=ib.yL;by_cases P1:i=i'
   .subst P1;rw[TK hi]at eW;cases eW;rw[w3 j']at l4;by_cases iU:j<=j'/\j'<j+xs.length
    .rw[if_pos iU]at l4;obtain⟨u,hu,cz⟩:=c2 _ _ l4;exact absurd rfl (cz.AG _ _)
    .rw[if_neg iU]at l4;exact⟨_,hb,.row dN l4⟩
   .rw[U9 P1]at eW;exact⟨_,hb,.row eW l4⟩)
  refine⟨.skip,Go.undef,w',.undef,_,ρ,?_,.inr ⟨rfl,rfl⟩,hK,jl,rfl,hX⟩;rw[sv,Sem.run_bind,hr];rfl
 .exact h.elim
end
section
variable {P:Program} {ρ:bJ} {m:Mem} {w:World} {aZ:List CV} {a:Act} {K:CV->Mem->Prop}
theorem Ff(hM:aA ρ m w)(hE:bn ρ w aZ a.tmps){t:TypeId}{fs:Array Field}{f:Field}{k n:Nat}{x:Operand}{x':X}(hu:P.underlying t=some (.struct fs))(hf:fs[k]? =some f)(hs:eN P f.type=some n)(hn:n≠0)(hx:bq x=some x')(h:step P (.bY f.offset x') aZ m K):dh P (do pure (Next.value (<-Instr.fieldAt t (a.eval x) k))) ρ m w K:=by
 have hd:=aT hE hx;simp only[step]at h;have run:∀b off:Nat,(Instr.fieldAt t (.pointer (some ⟨b,off,none⟩)) k).run P w= .ok (.pointer (some ⟨b,off+f.offset,none⟩)) w:=λb off=>by simp[Instr.fieldAt,run_underlying hu,hf,Instr.sureAddr,fieldPlace,ft hs,hn,mF]
 generalize a.eval x=v at hd|-;generalize x'.ev aZ=c at hd h;split at h
 .obtain⟨aD,rfl⟩:=hd;exact dh.pure hM (by rw[Sem.run_bind,run];rfl) h ⟨aD,by simp[abh]⟩
 .obtain⟨aD,rfl⟩:=hd;exact dh.pure hM (by rw[Sem.run_bind,run];rfl) h ⟨aD,by simp[abh]⟩
 .obtain⟨b,off,rfl,hS,cr⟩:=hd;refine dh.pure hM (by rw[Sem.run_bind,run];rfl) h ⟨b,off+f.offset,rfl,hS,λj d hj=>?_⟩
  rw[abi]at hj;rw[abh];exact cr _ d hj
 .exact h.elim
theorem CN{t:TypeId}{agg:Bool}{off n:Nat}{cs l:List CC}{cells:Array Value}{cv:CV}(ha:ec P t=some agg)(hs:eN P t=some n)(hc:Cells ρ w cs cells)(hr:jp cs off n=some l)(hm:L8 agg l=some cv):∃u,(part t cells off).run P w= .ok u w/\cf ρ w cv u:=by
 obtain⟨hl,ku⟩:=lv hr;unfold part;rw[Sem.run_bind,pM ha];simp only[Result.andThen_ok];cases agg with
 |true=>
  simp[L8]at hm;subst hm;refine⟨.agg (cells.extract off (off+n)),by simp[ft hs],?_⟩
  refine HI ⟨?_,λi c hi=>?_⟩
  .simp only[Array.size_extract,hl];rcases abp n with h0|h0
   .omega
   .have:=ku (n-1) om;have h1:off+(n-1)<cs.length:=by
     rcases aag (off+(n-1)) cs.length with h|h
     .exact h
     .rw[aaH h,vR om]at this;cases this
    have:=hc.1;omega
  .have iU:i<n:=by rw[<-hl];exact(Ki.1 hi).1
   obtain⟨u,hu,cz⟩:=hc.2 (off+i) c ((ku i iU).trans hi);have aD:=(aaF.1 hu).1;refine⟨u,?_,cz⟩;rw[Array.getElem?_extract];rw[if_pos om];exact hu
 |false=>
  match l,hm with
  | [c],hm=>
   simp[L8]at hm;subst hm;obtain⟨u,hu,cz⟩:=hc.2 off c (by have:=ku 0 (by simp at hl;omega);simpa using this)
   exact⟨u,by simp[hu],cz⟩
theorem Jf(hM:aA ρ m w)(hE:bn ρ w aZ a.tmps){t:TypeId}{fs:Array Field}{f:Field}{k n:Nat}{agg:Bool}{x:Operand}{x':X}(hu:P.underlying t=some (.struct fs))(hf:fs[k]? =some f)(ha:ec P f.type=some agg)(hs:eN P f.type=some n)(hx:bq x=some x')(h:step P (.Wl agg f.offset n x') aZ m K):dh P (do pure (Next.value (<-Instr.field t (a.eval x) k))) ρ m w K:=by
 have hd:=aT hE hx;simp only[step]at h;generalize a.eval x=v at hd|-;generalize x'.ev aZ=c at hd h;split at h
 .rename_i cs;obtain⟨vs,rfl,hl,hc⟩:=hd;obtain⟨l,hr,h⟩:=aW.1 h;obtain⟨cv,hm,hK⟩:=aW.1 h;obtain⟨u,cP,cz⟩:=CN (w:=w) ha hs (cells:=vs.toArray) ⟨by simpa using hl,λi c hi=>by simpa using hc i c hi⟩ hr hm
  refine dh.pure hM (v:=u) ?_ hK cz;simp[Instr.field,run_underlying hu,hf,asAgg,cP]
 .exact h.elim
theorem zp{α:Type}{l:List α}{n:Int}{x:α}(h:dA l n=some x):∃k:Nat,n=k/\l[k]? =some x:=by
 cases n with
 |ofNat k=>exact⟨k,rfl,by simpa[dA,aV]using h⟩
 |negSucc k=>simp[dA]at h
theorem mZ{n:Int}{len k:Nat}(h:d5 n len=some k):n=k/\k<len:=by
 cases n with
 |ofNat j=>
  simp only[d5]at h;split at h
  .rename_i hb;simp at h;subst h;exact⟨rfl,by simpa[abK]using hb⟩
  .cases h
 |negSucc j=>simp[d5]at h
theorem mi(a b:Nat):iN a b=a+b:=by
 cases a<;>simp[iN]
theorem iW(n lo:Nat)(hi:Option Nat):lenOf n lo hi=hi.getD n-lo:=by
 cases lo<;>cases hi<;>simp[lenOf]
theorem pN{k:IntKind}{n:Int}{v:Value}(h:cf ρ w (.rv (.one (.ah (.val (.int k n))))) v):v= .int k n:=(bH h).1
theorem mj{t e:TypeId}{esz:Nat}(hu:P.underlying t=some (.slice e))(hs:eN P e=some esz)(b off len cap k:Nat)(kd:IntKind)(hk:k<len):
  (Instr.indexAt t (.slice (some ⟨b,off,none⟩) len cap) (.int kd (k:Int))).run P w= .ok (.pointer (some ⟨b,off+k*esz,none⟩)) w:=by
 have h1:(0:Int)<=(k:Int)/\(k:Int)<(len:Int):=⟨om,om⟩;simp[Instr.indexAt,asIntOf,run_underlying hu,ft hs,mF];omega
theorem Jg(hM:aA ρ m w)(hE:bn ρ w aZ a.tmps){t e:TypeId}{esz:Nat}{x i:Operand}{x' i':X}(hu:P.underlying t=some (.slice e))(hs:eN P e=some esz)(hx:bq x=some x')(hi:bq i=some i')(h:step P (.cw esz x' i') aZ m K):dh P (do pure (Next.value (<-Instr.indexAt t (a.eval x) (a.eval i)))) ρ m w K:=by
 have hd:=aT hE hx;have EM:=aT hE hi;simp only[step]at h;generalize a.eval x=v at hd|-;generalize a.eval i=vi at EM|-;generalize x'.ev aZ=c at hd h;generalize i'.ev aZ=ci at EM h;split at h
 .rename_i kd n;obtain rfl:=pN EM;split at h
  .rename_i oN elems;rcases cq.1 h with⟨he,g1⟩|⟨_,g1⟩
   case inr=>exact g1.elim
   have he:esz=oN:=aau he;subst he;obtain⟨ds,hg,hK⟩:=aW.1 g1;obtain⟨k,rfl,hk⟩:=zp hg;have aD:=(Ki.1 hk).1;cases hd with
   |nil=>simp at aD
   |sl _ _ b off cap u hS hl bg dq hc cr=>
    refine dh.pure hM (by rw[Sem.run_bind,mj hu hs b off _ cap k kd aD];rfl) hK ⟨b,off+k*esz,rfl,hS,λj d hj=>?_⟩
    exact⟨_,hc k ds j d hk hj,cr k ds j d hk hj⟩
  .rename_i id oN lo hi;obtain⟨bk,hb,h⟩:=aW.1 h;rw[aV]at hb;cases bk<;>simp only at h
   rename_i rP elems;rcases cq.1 h with⟨he,g1⟩|⟨_,g1⟩
   case inr=>exact g1.elim
   rcases cq.1 g1 with⟨kK,g2⟩|⟨_,g2⟩
   case inr=>exact g2.elim
   have he:esz=oN:=aau he;subst he;obtain⟨k,hg,hK⟩:=aW.1 g2;obtain⟨rfl,hk⟩:=mZ hg;obtain⟨h2,h3,h4,h5,Cp⟩:=hM.bk id _ hb;obtain⟨aD,d1,d2,d3,d4,ad,rfl,vE⟩:=hd;rw[iW,h2]at hk;rw[vE (by clear Cp;omega)]
   refine dh.pure hM (by rw[Sem.run_bind,mj hu hs _ _ _ _ k kd hk];rfl) hK ⟨aD,?_⟩
   rw[mi,abk];simp[abh]
  .exact h.elim
 .exact h.elim
theorem iX{t e:TypeId}{esz len:Nat}(hu:P.underlying t=some (.array len e))(hs:eN P e=some esz)(b off k:Nat)(kd:IntKind)(hk:k<len):
  (Instr.indexAt t (.pointer (some ⟨b,off,none⟩)) (.int kd (k:Int))).run P w= .ok (.pointer (some ⟨b,off+k*esz,none⟩)) w:=by
 have h1:(0:Int)<=(k:Int)/\(k:Int)<(len:Int):=⟨om,om⟩;simp[Instr.indexAt,asIntOf,run_underlying hu,ft hs,mF,Instr.sureAddr];omega
theorem Fg(hM:aA ρ m w)(hE:bn ρ w aZ a.tmps){t e:TypeId}{len esz:Nat}{x i:Operand}{x' i':X}(hu:P.underlying t=some (.array len e))(hs:eN P e=some esz)(hx:bq x=some x')(hi:bq i=some i')(h:step P (.Cz len esz x' i') aZ m K):dh P (do pure (Next.value (<-Instr.indexAt t (a.eval x) (a.eval i)))) ρ m w K:=by
 have hd:=aT hE hx;have EM:=aT hE hi;simp only[step]at h;generalize a.eval x=v at hd|-;generalize a.eval i=vi at EM|-;generalize x'.ev aZ=c at hd h;generalize i'.ev aZ=ci at EM h;split at h
 .rename_i kd n;obtain rfl:=pN EM;split at h
  .obtain⟨k,hg,hK⟩:=aW.1 h;obtain⟨rfl,hk⟩:=mZ hg;obtain⟨aD,rfl⟩:=hd;exact dh.pure hM (by rw[Sem.run_bind,iX hu hs _ _ k kd hk];rfl) hK ⟨aD,by simp[abh]⟩
  .obtain⟨k,hg,hK⟩:=aW.1 h;obtain⟨rfl,hk⟩:=mZ hg;obtain⟨aD,rfl⟩:=hd;exact dh.pure hM (by rw[Sem.run_bind,iX hu hs _ _ k kd hk];rfl) hK ⟨aD,by simp[abh]⟩
  .obtain⟨k,hg,hK⟩:=aW.1 h;obtain⟨rfl,hk⟩:=mZ hg;obtain⟨b,off,rfl,hS,cr⟩:=hd;refine dh.pure hM (by rw[Sem.run_bind,iX hu hs _ _ k kd hk];rfl) hK ⟨b,off+k*esz,rfl,hS,λj d hj=>?_⟩
   rw[abi]at hj;rw[abh];exact cr _ d hj
  .exact h.elim
 .exact h.elim
theorem Fh(hM:aA ρ m w)(hE:bn ρ w aZ a.tmps){t:TypeId}{x i:Operand}{x' i':X}(hu:P.underlying t=some .string)(hx:bq x=some x')(hi:bq i=some i')(h:step P (.CA x' i') aZ m K):dh P (do pure (Next.value (<-Instr.index t (a.eval x) (a.eval i)))) ρ m w K:=by
 have hd:=aT hE hx;have EM:=aT hE hi;simp only[step]at h;generalize a.eval x=v at hd|-;generalize a.eval i=vi at EM|-;generalize x'.ev aZ=c at hd h;generalize i'.ev aZ=ci at EM h;split at h
 .rename_i kd n;obtain rfl:=pN EM;split at h
  .rename_i s;obtain⟨rfl,_⟩:=bH hd;obtain⟨b,hg,hK⟩:=aW.1 h;obtain⟨k,rfl,hk⟩:=zp hg;have aD:k<s.size:=by have:=(Ki.1 hk).1;simpa using this
   have hs:s[k]? =some b:=by
    rw[vR (by simpa using aD)]at hk
    simp at hk;rw[getElem?_pos s k aD];simp[<-hk];rfl
   refine dh.pure hM (v:= .int .u8 b.toNat) ?_ hK (cA rfl);simp[Instr.index,asIntOf,run_underlying hu,hs]
  .exact h.elim
 .exact h.elim
theorem zq(hM:aA ρ m w)(hE:bn ρ w aZ a.tmps){op:BinOp}{t:TypeId}{x y:Operand}{x' y':X}(hx:bq x=some x')(hy:bq y=some y')(h:step P (.aL op x' y') aZ m K):dh P (do let v<-(do eqGuard op t x y (a.eval x) (a.eval y);binOp op t (a.eval x) (a.eval y));pure (Next.value v)) ρ m w K:=by
 have hd:=aT hE hx;have qp:=aT hE hy;simp only[step]at h;generalize a.eval x=v at hd|-;generalize a.eval y=u at qp|-;generalize x'.ev aZ=c at hd h;generalize y'.ev aZ=d at qp h;split at h
 .split at h
  .obtain⟨r,hr,hK⟩:=aW.1 h;obtain⟨rfl,hp⟩:=bH hd (λe=>by subst e;simp[I7]at hr)
   obtain⟨rfl,hq⟩:=bH qp (λe=>by subst e;cases v<;>simp[I7]at hr)
   obtain⟨h1,h2⟩:=Fc (P:=P) (w:=w) hr (t:=t);refine dh.pure hM (v:=r) ?_ hK (cA h2);have hg:(eqGuard op t x y v u).run P w= .ok () w:=uU hp (by rintro rfl;cases u<;>simp[I7]at hr)
   simp only[Sem.run_bind,hg,Result.andThen_ok,h1,Sem.run_pure]
  .exact h.elim
 .exact h.elim
theorem zr(hM:aA ρ m w)(hE:bn ρ w aZ a.tmps){neg:Bool}{t:TypeId}{x y:Operand}{x' y':X}(ht:P.underlying t=some .bool)(hx:bq x=some x')(hy:bq y=some y')(h:step P (.beq neg x' y') aZ m K):dh P (do let v<-(do eqGuard (if neg then .neq else .eql) t x y (a.eval x) (a.eval y);binOp (if neg then .neq else .eql) t (a.eval x) (a.eval y));pure (Next.value v)) ρ m w K:=by
 have hd:=aT hE hx;have qp:=aT hE hy;simp only[step]at h;generalize a.eval x=v at hd|-;generalize a.eval y=u at qp|-;generalize x'.ev aZ=c at hd h;generalize y'.ev aZ=d at qp h;split at h
 .split at h
  .obtain⟨rfl,hp⟩:=bH hd;obtain⟨rfl,hq⟩:=bH qp;refine dh.pure hM (v:=_) ?_ h (cA rfl);rw[Sem.run_bind,Sem.run_bind,uU hp aC];simp only[Result.andThen_ok,Qm ht,Sem.run_pure]<;>rfl
  .exact h.elim
 .exact h.elim
theorem Mj(hM:aA ρ m w)(hE:bn ρ w aZ a.tmps){op:UnOp}{x:Operand}{x':X}(hx:bq x=some x')(h:step P (.un op x') aZ m K):dh P (do pure (Next.value (<-Op.unary op (a.eval x)))) ρ m w K:=by
 have hd:=aT hE hx;simp only[step]at h;generalize a.eval x=v at hd|-;generalize x'.ev aZ=c at hd h;split at h
 .obtain⟨r,hr,hK⟩:=aW.1 h;obtain⟨rfl,hp⟩:=bH hd (λe=>by subst e;simp[Zo]at hr)
  obtain⟨h1,h2⟩:=Jc (P:=P) (w:=w) hr;exact dh.pure hM (v:=r) (by rw[Sem.run_bind,h1];rfl) hK (cA h2)
 .exact h.elim
theorem Fi(hM:aA ρ m w)(hE:bn ρ w aZ a.tmps){s d:TypeId}{k0 k:IntKind}{x:Operand}{x':X}(hs:P.underlying s=some (.int k0))(hk:P.underlying d=some (.int k))(hx:bq x=some x')(h:step P (.conv k x') aZ m K):dh P (do pure (Next.value (<-convert s d (a.eval x)))) ρ m w K:=by
 have hd:=aT hE hx;simp only[step]at h;generalize a.eval x=v at hd|-;generalize x'.ev aZ=c at hd h;split at h
 .obtain rfl:=pN hd;refine dh.pure hM (v:=_) ?_ h (cA rfl);simp[convert,run_underlying hs,run_underlying hk,Conv.intToInt]
 .exact h.elim
theorem Jh(hM:aA ρ m w)(hE:bn ρ w aZ a.tmps){s d:TypeId}{x:Operand}{x':X}(hs:P.underlying s=some .string)(hk:P.underlying d=some .string)(hx:bq x=some x')(h:step P (.Wm x') aZ m K):dh P (do pure (Next.value (<-convert s d (a.eval x)))) ρ m w K:=by
 have hd:=aT hE hx;simp only[step]at h;generalize a.eval x=v at hd|-;generalize x'.ev aZ=c at hd h;split at h
 .obtain⟨rfl,hp⟩:=bH hd;refine dh.pure hM (v:=_) ?_ h (cA rfl);simp[convert,run_underlying hs,run_underlying hk]
 .exact h.elim
theorem tH(hE:bn ρ w aZ a.tmps):∀{xs:List Operand}{HL:List X},uS xs=some HL->(Hx aZ HL).length=xs.length/\
  ∀(i:Nat)c,(Hx aZ HL)[i]? =some c->∃v,(xs.map a.eval)[i]? =some v/\cf ρ w c v
 | [],HL,h=>by simp[uS]at h;subst h;simp[Hx]
 |x::r,HL,h=>by
  simp only[uS,U8,Pu]at h;obtain⟨x',hx,r',hr,h⟩:=h;simp at h;subst h;obtain⟨h1,h2⟩:=tH hE hr;refine⟨by simp[Hx,h1],λi c hi=>?_⟩
  cases i with
  |zero=>simp[Hx]at hi;subst hi;exact⟨_,aC,aT hE hx⟩
  |succ i=>simpa using h2 i c (by simpa[Hx]using hi)
theorem uY:∀{cs:List CV}{kI:List Nat},wo cs=some kI->cs=kI.map λid=>CV.rv (.one (.ptr id 0))
 | [],kI,h=>by simp[wo]at h;subst h;rfl
 |c::r,kI,h=>by
  unfold wo at h;split at h
  .rename_i h1;simp at h1
  .rename_i id r' h1;simp only[aea]at h1;obtain⟨rfl,rfl⟩:=h1;split at h
   .rename_i l hl;simp at h;subst h;rw[uY hl];rfl
   .cases h
  .cases h
theorem wG:∀kI:List Nat,vY kI=kI.map λid=>CV.rv (.one (.ptr id 0))
 | []=>rfl
 |id::r=>by simp[vY,wG r]
theorem Ml(hM:aA ρ m w)(hE:bn ρ w aZ a.tmps){f:Nat}{xs:Array Operand}{HL:List X}(hx:uS xs.toList=some HL)(h:step P (.fn f HL) aZ m K):dh P (do pure (Next.value (<-Instr.makeFunc (.func f) ((#[]:Array Operand).map a.eval) (xs.map a.eval)))) ρ m w K:=by
 simp only[step]at h;obtain⟨kI,hi,hK⟩:=aW.1 h;obtain⟨h1,h2⟩:=tH hE hx;rw[uY hi]at h1 h2;refine dh.pure hM (v:= .func (.func f) #[] (xs.map a.eval)) (by simp[Instr.makeFunc]) hK ⟨λid hid=>?_,?_⟩
 .obtain⟨k,hk,rfl⟩:=adr hid;obtain⟨v,_,hd⟩:=h2 k _ (by rw[Tr,vR hk];rfl)
  exact hd.1
 .congr 1;apply ab1;rw[Array.toList_map];apply abC;intro k;simp only[N7]at h1;rcases aag k kI.length with hk|hk
  .obtain⟨v,hv,hd⟩:=h2 k _ (by rw[Tr,vR hk];rfl)
   rw[hv,hd.2];simp[vR hk]
  .rw[aaH (by simp;rw[<-Array.length_toList,<-h1];exact hk),aaH (by simpa using hk)]
theorem Ji(hM:aA ρ m w)(hE:bn ρ w aZ a.tmps){i:Nat}{x:Operand}{x':X}(hx:bq x=some x')(h:step P (.ext x' i) aZ m K):dh P (do pure (Next.value (<-Instr.extract (a.eval x) i))) ρ m w K:=by
 have hd:=aT hE hx;simp only[step]at h;generalize a.eval x=v at hd|-;generalize x'.ev aZ=c at hd h;split at h
 .obtain⟨r,hr,hK⟩:=aW.1 h;rw[aV]at hr;obtain⟨vs,rfl,hl,hc⟩:=hd;obtain⟨u,hu,cz⟩:=hc i r hr;refine dh.pure hM (v:=u) ?_ hK cz;simp[Instr.extract,hu]
 .exact h.elim
theorem tI(hM:aA ρ m w)(hE:bn ρ w aZ a.tmps){t ty:TypeId}{x:Operand}{x':X}{k:Nat}(hu:(k=0/\P.underlying t=some .string)\/(k=1/\∃e,P.underlying t=some (.slice e))\/(k=2/\∃kt e,P.underlying t=some (.map kt e)))(hx:bq x=some x')(h:step P (.len k x') aZ m K):dh P (do pure (Next.value (<-Builtin.len_ #[t] ty #[a.eval x]))) ρ m w K:=by
 have hd:=aT hE hx;generalize a.eval x=v at hd|-;rcases hu with⟨rfl,hu⟩|⟨rfl,e,hu⟩|⟨rfl,kt,e,hu⟩
 .simp only[step]at h;generalize x'.ev aZ=c at hd h;split at h
  .obtain⟨rfl,hp⟩:=bH hd;refine dh.pure hM (v:=_) ?_ h (cA rfl);simp[Builtin.len_,run_underlying hu,goInt]
  .exact h.elim
 .simp only[step]at h;generalize x'.ev aZ=c at hd h;split at h
  .rename_i esz elems;refine dh.pure hM (v:= .int .i64 (elems.length:Int)) ?_ h (cA rfl);cases hd<;>simp[Builtin.len_,run_underlying hu,goInt]
  .rename_i id esz lo hi;obtain⟨bk,hb,h⟩:=aW.1 h;rw[aV]at hb;cases bk<;>simp only at h
   rename_i oN elems;obtain⟨h2,h3,h4,h5,Cp⟩:=hM.bk id _ hb;obtain⟨aD,d1,d2,d3,d4,ad,rfl,vE⟩:=hd;rw[iW,h2]at h;refine dh.pure hM (v:=_) ?_ h (cA rfl);simp[Builtin.len_,run_underlying hu,goInt]
  .obtain⟨ad,rfl⟩:=hd;refine dh.pure hM (v:=_) ?_ h (cA rfl);simp[Builtin.len_,run_underlying hu,goInt]
  .exact h.elim
 .simp only[step]at h;generalize x'.ev aZ=c at hd h;split at h
  .rename_i id;obtain⟨bk,hb,h⟩:=aW.1 h;rw[aV]at hb;cases bk<;>simp only at h
   rename_i es;obtain⟨bt,clock,eF,dq,vF⟩:=hM.bk id _ hb;obtain⟨aD,rfl⟩:=hd;refine dh.pure hM (v:= .int .i64 (es.length:Int)) ?_ h (cA rfl);simp[Builtin.len_,run_underlying hu,goInt,getObj,Sem.run,eF,dq]
  .exact h.elim
theorem Fj(hM:aA ρ m w)(hE:bn ρ w aZ a.tmps){x:Operand}{x':X}{o:Oper}(ho:o.op= .nilCheck x)(hx:bq x=some x')(h:step P (.aR x') aZ m K):dh P (execOp a.eval o) ρ m w K:=by
 have hd:=aT hE hx;simp only[step]at h;unfold execOp;rw[ho];simp only;generalize a.eval x=v at hd|-;generalize x'.ev aZ=c at hd h;split at h
 .have T2:=hd;obtain⟨aD,rfl⟩:=hd;exact dh.pure hM rfl h T2
 .have T2:=hd;obtain⟨aD,rfl⟩:=hd;exact dh.pure hM rfl h T2
 .have T2:=hd;obtain⟨b,off,rfl,_⟩:=hd;exact dh.pure hM rfl h T2
 .exact h.elim
theorem Fk(hM:aA ρ m w)(hE:bn ρ w aZ a.tmps){c x y:Operand}{c' x' y':X}(hc:bq c=some c')(hx:bq x=some x')(hy:bq y=some y')(h:step P (.pick c' x' y') aZ m K):dh P (do pure (Next.value (if<-asBool (a.eval c)then a.eval x else a.eval y))) ρ m w K:=by
 have hd:=aT hE hc;simp only[step]at h;generalize a.eval c=v at hd|-;generalize c'.ev aZ=cc at hd h;split at h
 .obtain⟨rfl,hp⟩:=bH hd;rcases cq.1 h with⟨rfl,h⟩|⟨rfl,h⟩
  .exact dh.pure hM (v:=a.eval x) (by simp[asBool]) h (aT hE hx)
  .exact dh.pure hM (v:=a.eval y) (by simp[asBool]) h (aT hE hy)
 .exact h.elim
theorem Mm{α:Type}{n i:Nat}{x y:α}(h:(gH n x)[i]? =some y):y=x/\i<n:=by
 rw[fZ,adx]at h;split at h
 .exact⟨by simpa using h.symm,by assumption⟩
 .cases h
def AJ(ρ:bJ)(w:World)(esz:Nat)(rows:List (List CC))(cells:Array Value):Prop:=
 cells.size=rows.length*esz/\(∀cs,cs∈rows->cs.length=esz)/\
  ∀(i:Nat)cs(j:Nat)c,rows[i]? =some cs->cs[j]? =some c->∃u,cells[i*esz+j]? =some u/\bm ρ w .none c u
theorem uZ(hE:bn ρ w aZ a.tmps){esz:Nat}:
  ∀{ps:List (Nat×Operand)}{oJ:List (Nat×X)}{rows m4:List (List CC)}{cells:Array Value},lg ps=some oJ->uQ aZ esz rows oJ=some m4->AJ ρ w esz rows cells->
   ∃fB,Instr.fill (λi=>some (i*esz,esz)) cells (ps.map λp=>(p.1,a.eval p.2))=some fB/\AJ ρ w esz m4 fB/\m4.length=rows.length
 | [],oJ,z,z',cells,hp,hf,hz=>by simp[lg]at hp;subst hp;simp[uQ]at hf;subst hf;exact⟨cells,rfl,hz,rfl⟩
 |(i,x)::r,oJ,z,z',cells,hp,hf,hz=>by
  simp only[lg,U8,Pu]at hp;obtain⟨x',hx,r',hr,hp⟩:=hp;simp at hp;subst hp;simp only[uQ]at hf;split at hf
  .rename_i cs eL;split at hf
   .rename_i hlen;simp only[aae,abK]at hlen;have hl:cs.length=esz:=aau hlen.1;obtain⟨h1,h2,_⟩:=jX eL (aT hE hx);have dq:i*esz+esz<=cells.size:=by rw[hz.1];have:(i+1)*esz<=z.length*esz:=aa8 _ hlen.2;rwa [abk,ab4]at this
    have hff:=tG (i*esz) (a.eval x).cells.toList 0 cells;simp only[ac8]at hff;have he:(a.eval x).cells.zipIdx.foldl (λcs(p:Value×Nat)=>cs.setIfInBounds (i*esz+p.2) p.1) cells=((a.eval x).cells.toList.zipIdx 0).foldl (λ(cs:Array Value)(p:Value×Nat)=>cs.setIfInBounds (i*esz+p.2) p.1) cells:=by rw[<-Array.foldl_toList];simp
    have CO:Instr.fill (λi=>some (i*esz,esz)) cells ((i,a.eval x)::r.map λp=>(p.1,a.eval p.2))=
      Instr.fill (λi=>some (i*esz,esz)) ((a.eval x).cells.zipIdx.foldl (λcs(p:Value×Nat)=>cs.setIfInBounds (i*esz+p.2) p.1) cells) (r.map λp=>(p.1,a.eval p.2)):=by
     rw[Instr.fill];simp only;rw[if_neg (by rw[h1,hl];simp;omega)]
    have WC:AJ ρ w esz (aX z i cs) ((a.eval x).cells.zipIdx.foldl (λcs(p:Value×Nat)=>cs.setIfInBounds (i*esz+p.2) p.1) cells):=by
     rw[he,bb];refine⟨by rw[hff.1,hz.1];simp,λfk Mn=>?_,λi' fk j c eQ hj=>?_⟩
     .rcases aaQ Mn with hm|rfl
      .exact hz.2.1 fk hm
      .exact hl
     .have u0:(a.eval x).cells.toList.length=esz:=by simp[h1,hl]
      rw[hff.2 (by rw[u0];exact dq),u0]
      by_cases P1:i=i'
      .subst P1;rw[TK hlen.2]at eQ;simp only[aaA]at eQ;subst eQ;have l4:j<esz:=by rw[<-hl];exact(Ki.1 hj).1
       rw[if_pos om];obtain⟨u,hu,cz⟩:=h2 j c hj;exact⟨u,by rw[show i*esz+j-i*esz=j by omega];simpa using hu,cz⟩
      .rw[U9 P1]at eQ;have l4:j<esz:=by rw[<-hz.2.1 _ (Tu eQ)];exact(Ki.1 hj).1
       rw[if_neg]
       .exact hz.2.2 i' fk j c eQ hj
       .rcases Nat.lt_or_gt_of_ne P1 with oS|oS
        .have:(i+1)*esz<=i'*esz:=aa8 _ oS;rw[abk,ab4]at this;omega
        .have:(i'+1)*esz<=i*esz:=aa8 _ oS;rw[abk,ab4]at this;omega
    obtain⟨fB,h3,h4,h5⟩:=uZ hE hr hf WC;exact⟨fB,by rw[aaR,CO,h3],h4,by rw[h5,bb];simp⟩
   .cases hf
  .cases hf
theorem Fl(zero:Array Value)(n:Nat)(k:Nat)(hk:k<n)(hz:0<zero.size):((Array.range n).map (zero[· %zero.size]!))[k]? =zero[k%zero.size]? :=by have:k%zero.size<zero.size:=Nat.mod_lt _ hz;simp[hk,this]
theorem Jj(hM:aA ρ m w)(hE:bn ρ w aZ a.tmps){t e:TypeId}{n:Nat}{ps:Array (Nat×Operand)}{z:List CC}{oJ:List (Nat×X)}(hu:P.underlying t=some (.slice e))(hz:ek P e=some z)(hs:eN P e=some z.length)(cJ:0<z.length)(hn:n*z.length<=2^24)(hp:lg ps.toList=some oJ)(h:step P (.nI z.length z n oJ) aZ m K):dh P (do pure (Next.value (<-Instr.buildSlice t n (ps.map λ(i,x)=>(i,a.eval x))))) ρ m w K:=by
 simp only[step]at h;obtain⟨rows,hf,hK⟩:=aW.1 h;rw[fq,gP,cg]at hK;obtain⟨zv,LB,Qo⟩:=Fd (ρ:=ρ) (w:=w) hz;have aaf:zv.cells.size=z.length:=Qo.1;have h0:AJ ρ w z.length (gH n z) ((Array.range (n*z.length)).map (zv.cells[· %zv.cells.size]!)):=by
  refine⟨by simp[fZ],λcs eL=>?_,λi cs j c hi hj=>?_⟩
  .rw[fZ]at eL;rw[acQ eL]
  .obtain⟨rfl,iU⟩:=Mm hi;have l4:=(Ki.1 hj).1;have aD:i*cs.length+j<n*cs.length:=by have:(i+1)*cs.length<=n*cs.length:=aa8 _ iU;rw[abk,ab4]at this;omega
   rw[Fl _ _ _ aD om,aaf,adw i,aeb,ad4 l4];exact Qo.2 j c hj
 obtain⟨cells,h1,h2,h3⟩:=uZ hE hp hf h0;have hlen:rows.length=n:=by rw[h3,fZ];simp
 obtain⟨U',g1,g2,g3⟩:=Mi hM (ty:=e) (cap:=n) (cells:=cells) (elems:=rows) (w':=w.alloc (.cells cells e)) (.inl rfl) (by rw[h2.1,hlen];exact Yj _) om (by unfold maxLen;have:n*1<=n*z.length:=Nat.mul_le_mul_left _ cJ;omega) h2.2.1 h2.2.2
 rw[hlen]at g3;refine⟨_,_,_,_,_,U',?_,.inl rfl,hK,g1,g3,g2⟩;have CO:Instr.fill (λi=>some (i*z.length,z.length)) ((Array.range (n*z.length)).map (zv.cells[· %zv.cells.size]!)) (ps.map λ(i,x)=>(i,a.eval x)).toList=some cells:=by simpa using h1
 rcases abp n with HK|HK
 .subst HK;have e0:∀zz:Array Value,((Array.range (0*z.length)).map (zz[· %zz.size]!))= #[]:=by intro zz;simp
  rw[e0]at CO;simp only[Instr.buildSlice,Sem.run_bind,run_underlying hu,Result.andThen_ok,ft hs];rw[if_neg om,if_pos aC];simp only[Sem.run_pure,Result.andThen_ok,e0,CO];simp[newRow]
 .have dy:n*z.length≠0:=Nat.ne_of_gt (Nat.mul_pos HK cJ);simp only[Instr.buildSlice,Sem.run_bind,run_underlying hu,Result.andThen_ok,ft hs];rw[if_neg om,if_neg dy];simp only[Sem.run_bind,LB,Result.andThen_ok,Sem.run_pure,CO];simp[newRow]
end
end Go.AM
