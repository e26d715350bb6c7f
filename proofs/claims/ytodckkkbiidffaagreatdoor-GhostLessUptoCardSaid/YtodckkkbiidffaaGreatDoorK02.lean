/- Part 2 of 16. -/
import Derived.Test.YtodckkkbiidffaaGreatDoorK01
import Derived.Laws.BytesArg
import Derived.RangeFuncLeaves
import Derived.RangeFuncRecord
set_option linter.unusedVariables false
set_option linter.unusedSimpArgs false
set_option maxRecDepth 100000
set_option maxHeartbeats 0
namespace Go.AM
inductive X where
 |t (n:Nat)
 |c (v:CV)
inductive Kd where
 |b
 |i
 |s
inductive Ky where
 |i (k:IntKind)
 |s
 |b
 |a2 (k:IntKind)
inductive I where
 |aM (x:X)
 |pick (c a b:X)
 |alloc (z:List CC)
 |box (x:X)
 |build (z:List CC) (parts:List (Nat×Nat×X))
 |od (esz:Nat) (z:List CC) (len:Nat) (parts:List (Nat×X))
 |load (agg:Bool) (n:Nat) (a:X)
 |store (n:Nat) (a x:X)
 |b8 (off:Nat) (a:X)
 |Wp (agg:Bool) (off n:Nat) (a:X)
 |cz (esz:Nat) (a i:X)
 |wv (len esz:Nat) (a i:X)
 |CK (a i:X)
 |aJ (op:BinOp) (x y:X)
 |PN (neg:Bool) (ks:List Kd) (x y:X)
 |beq (neg:Bool) (x y:X)
 |un (op:UnOp) (x:X)
 |conv (k:IntKind) (x:X)
 |Wq (x:X)
 |Wr (x:X)
 |VR (x:X)
 |oG (esz:Nat) (x:X) (lo hi mx:Option X)
 |Jb (x:X) (lo hi:Option X)
 |fn (f:Nat) (eE:List X)
 |len (k:Nat) (x:X)
 |pO (esz bytes:Nat) (dst src:X)
 |call (f:X) (args:List X)
 |ext (x:X) (i:Nat)
 |aP (x:X)
 |yP (neg:Bool) (x:X)
 |rN
 |pP (esz bytes:Nat) (z:List CC) (n c:X)
 |yQ (z:RV) (kk:Ky) (m k:X) (ok:Bool)
 |tz (kk:Ky) (m k v:X)
 |kq (mx:Bool) (xs:List X)
 |L4 (kk:Ky) (m k:X)
 |copy (esz:Nat) (dst src:X)
 |VS (esz:Nat) (z:List CC) (x:X)
 |L5 (agg:Bool) (n sz:Nat) (x i:X)
 |Zr (x:X)
 |Ws (x:X)
 |tC (x:X)
 |Wu (x:X)
structure LO where
 dst:Option Nat
 Cy:I
 guard:Option (Nat×Bool)
inductive nH where
 |nil
 |cons (i:Nat) (L6:Option (List Nat)) (r:nH)
 |ww (a b:nH)
inductive LC where
 |skip
 |ai (ops:List LO)
 |bV (bW:List LO) (qS:List nH)
 |seq (a b:LC)
 |cond (x:X) (a b:LC)
 |block (id:Nat) (b:LC)
 |loop (b:LC)
 |exit (id:Nat)
 |ret
 |cX (a:LC)
 |yR (x:X) (p:Nat) (a b:LC)
def LC.er:LC->LC
 | .seq a b=>.seq a.er b.er
 | .cond x a b=>.cond x a.er b.er
 | .block id b=>.block id b.er
 | .loop b=>.loop b.er
 | .cX a=>a.er
 | .yR x p a b=>.yR x p a.er b.er
 | .skip=>.skip
 | .ai ops=>.ai ops
 | .bV a b=>.bV a b
 | .exit id=>.exit id
 | .ret=>.ret
def LC.rO:LC->Bool
 | .seq a b=>a.rO&&b.rO
 | .cond _ a b=>a.rO&&b.rO
 | .block _ b=>b.rO
 | .loop b=>b.rO
 | .cX a=>a.rO
 | .yR _ _ _ _=>false
 |_=>true
inductive Rv where
 |tmp (t:Nat)
 |cell (agg:Bool) (n:Nat) (t:Nat)
structure LF where
 n:Nat
 l8:List Rv
 code:LC
def LF.er(f:LF):LF:=⟨f.n,f.l8,f.code.er⟩
def cF{α:Type}:List α->Nat->Option α
 | [],_=>none
 |x::_,0=>some x
 |_::r,k+1=>cF r k
def aV{α:Type}:List α->Nat->α->List α
 | [],_,_=>[]
 |_::r,0,y=>y::r
 |x::r,k+1,y=>x::aV r k y
def jr{α:Type}{β:Sort _}:List α->(List α->β)->β
 | [],k=>k []
 |x::r,k=>jr r λr'=>k (x::r')
def kP:List CV->Nat->CV
 | [],_=>.aA
 |x::_,0=>x
 |_::r,k+1=>kP r k
def X.ev(e:List CV):X->CV
 | .t n=>kP e n
 | .c v=>v
def ok{α:Type}(o:Option α)(K:α->Prop):Prop:= @Option.rec α (λ_=>Prop) False K o
def bB(t:Bool)(A B:Prop):Prop:= @Bool.rec (λ_=>Prop) B A t
def iU:List CC->Nat->Nat->Option (List CC)
 |_,0,0=>some []
 | [],_,_=>none
 |c::cs,0,n+1=>match iU cs 0 n with|some l=>some (c::l)|none=>none
 |_::cs,j+1,n=>iU cs j n
def fX:List CC->Nat->List CC->Option (List CC)
 |cs,0,[]=>some cs
 | [],_,_=>none
 |_::cs,0,x::xs=>match fX cs 0 xs with|some l=>some (x::l)|none=>none
 |c::cs,j+1,xs=>match fX cs j xs with|some l=>some (c::l)|none=>none
def wx:List Dt->Nat->Option (List CC)
 |_,0=>some []
 | [],_+1=>none
 |d::ds,n+1=>match wx ds n with|some l=>some (.ah d::l)|none=>none
def cellsOf:CV->Option (List CC)
 | .rv (.one c)=>some [c]
 | .rv (.agg cs)=>some cs
 |_=>none
def CL:CV->Option RV
 | .rv r=>some r
 |_=>none
def L7(agg:Bool)(l:List CC):Option CV:=
 match agg,l with
 |true,l=>some (.rv (.agg l))
 |false,[c]=>some (.rv (.one c))
 |false,_=>none
def js:List CC->Bool
 | []=>true
 | .ei _ _::_=>false
 |_::r=>js r
def dD{α:Type}(l:List α):Int->Option α
 | .ofNat k=>cF l k
 | .negSucc _=>none
def dZ(n:Int)(len:Nat):Option Nat:=
 match n with
 | .ofNat k=>match Nat.blt k len with|true=>some k|false=>none
 | .negSucc _=>none
def iM(a b:Nat):Nat:=match a with|0=>b|a=>a+b
def lenOf(elems:Nat)(lo:Nat)(hi:Option Nat):Nat:=
 match lo,hi with
 |0,none=>elems
 |0,some h=>h
 |lo,none=>elems-lo
 |lo,some h=>h-lo
def b9{α:Type}(l:List α)(lo:Nat)(hi:Option Nat):List α:=
 match lo,hi with
 |0,none=>l
 |0,some h=>l.take h
 |lo,none=>l.drop lo
 |lo,some h=>(l.take h).drop lo
def oJ(e:List CV):List CC->List (Nat×Nat×X)->Option (List CC)
 |z,[]=>some z
 |z,(off,sz,x)::r=>match cellsOf (x.ev e)with
  |some cs=>match Nat.beq cs.length sz with
   |true=>match fX z off cs with
    |some z'=>oJ e z' r
    |none=>none
   |false=>none
  |none=>none
def uQ(e:List CV)(esz:Nat):List (List CC)->List (Nat×X)->Option (List (List CC))
 |z,[]=>some z
 |z,(i,x)::r=>match cellsOf (x.ev e)with
  |some cs=>match Nat.beq cs.length esz&&Nat.blt i z.length with
   |true=>uQ e esz (aV z i cs) r
   |false=>none
  |none=>none
def gI{α:Type}:Nat->α->List α
 |0,_=>[]
 |n+1,x=>x::gI n x
def Hx(e:List CV):List X->List CV
 | []=>[]
 |x::r=>x.ev e::Hx e r
def wy:List CV->Option (List Nat)
 | []=>some []
 | .rv (.one (.ptr id 0))::r=>match wy r with|some l=>some (id::l)|none=>none
 |_=>none
def wd:List Nat->List CV
 | []=>[]
 |id::r=>.rv (.one (.ptr id 0))::wd r
def gJ{α:Type}:List α->List α->List α
 | [],l=>l
 |x::r,l=>x::gJ r l
def wz{β:Sort _}(m0:Mem):Mem->List Nat->(Nat->β)->β
 | [],n::_,k=>k n
 |_::r,_::ls,k=>wz m0 r ls k
 |_,[],k=>k m0.length
def nJ{β:Sort _}(m:Mem)(k:Nat->β):β:=
 wz m m [0,1,2,3,4,5,6,7,8,9,10,11,12,13,14,15,16,17,18,19,20,21,22,23,24,25,26,27,28,29,30,31,32,33,34,35,36,37,38,39,40,41,42,43,44,45,46,47,48,49,50,51,52,53,54,55,56,57,58,59,60,61,62,63] k
def am(k:IntKind)(n:Int):CV:= .rv (.one (.ah (.val (.int k n))))
def aD(b:Bool):CV:= .rv (.one (.ah (.val (.bool b))))
def fb(s:ByteArray):CV:= .rv (.one (.ah (.val (.string s))))
def Jc(op:BinOp):Value->Value->Option Value
 | .int k a,.int k' b=>
  match op with
  | .shl=>match decide (b<0)with|false=>some (.int k (k.wrap (a*2^(min b.toNat k.bits))))|true=>none
  | .shr=>match decide (b<0)with|false=>some (.int k (a.fdiv (2^(min b.toNat k.bits))))|true=>none
  |op=>match decide (k=k')with
   |false=>none
   |true=>match op with
    | .add=>some (.int k (k.wrap (a+b)))
    | .sub=>some (.int k (k.wrap (a-b)))
    | .mul=>some (.int k (k.wrap (a*b)))
    | .quo=>match decide (b=0)with|false=>some (.int k (k.wrap (a.tdiv b)))|true=>none
    | .rem=>match decide (b=0)with|false=>some (.int k (a.tmod b))|true=>none
    | .and=>some (.int k (k.wrap (BitVec.ofInt k.bits a&&&BitVec.ofInt k.bits b).toNat))
    | .or=>some (.int k (k.wrap (BitVec.ofInt k.bits a|||BitVec.ofInt k.bits b).toNat))
    | .xor=>some (.int k (k.wrap (BitVec.ofInt k.bits a^^^BitVec.ofInt k.bits b).toNat))
    | .andNot=>some (.int k (k.wrap (BitVec.ofInt k.bits a&&& ~~~ BitVec.ofInt k.bits b).toNat))
    | .eql=>some (.bool (a==b))
    | .neq=>some (.bool (a !=b))
    | .lss=>some (.bool (decide (a<b)))
    | .leq=>some (.bool (decide (a<=b)))
    | .gtr=>some (.bool (decide (a>b)))
    | .geq=>some (.bool (decide (a>=b)))
    |_=>none
 | .string a,.string b=>
  match op with
  | .add=>match decide (((a.size+b.size:Nat):Int)>IntKind.i64.max)with|false=>some (.string (a++b))|true=>none
  | .eql=>some (.bool (a.toList==b.toList))
  | .neq=>some (.bool (!(a.toList==b.toList)))
  | .lss=>some (.bool (Op.bytesLess a.toList b.toList))
  | .leq=>some (.bool (Op.bytesLess a.toList b.toList||a.toList==b.toList))
  | .gtr=>some (.bool (!(Op.bytesLess a.toList b.toList||a.toList==b.toList)))
  | .geq=>some (.bool (!(Op.bytesLess a.toList b.toList)))
  |_=>none
 |_,_=>none
def Zs(op:UnOp):Value->Option Value
 | .bool b=>match op with| .not=>some (.bool (!b))|_=>none
 | .int k n=>match op with| .neg=>some (.int k (k.wrap (0-n)))|_=>none
 |_=>none
def PQ:Kd->Value->Value->Option Bool
 | .i,.int k a,.int k' b=>match decide (k=k')with|true=>some (a==b)|false=>none
 | .s,.string a,.string b=>some (a.toList==b.toList)
 | .b,.bool a,.bool b=>some (a==b)
 |_,_,_=>none
def kQ:List Kd->List CC->List CC->Option Bool
 | [],[],[]=>some true
 |k::ks,.ah (.val a)::r,.ah (.val b)::s=>match PQ k a b,kQ ks r s with
  |some x,some y=>some (x&&y)
  |_,_=>none
 |_,_,_=>none
def ap(P:Program)(f:Nat)(args:List CV)(m:Mem)(K:CV->Mem->Prop):Prop:=
 (∃fn,P.funcs[f]? =some fn/\fn.body.isSome=true/\(fn.name== "runtime.NumGoroutine")=false)/\
 ∀(ρ:bI)(w:World)(vs:List Value),ay ρ m w->vs.length=args.length->(∀(i:Nat)c,args[i]? =some c->∃v,vs[i]? =some v/\ce ρ w c v)->
  Calls P f vs.toArray w λe w'=>∃v r m' U',e= .returned v/\K r m'/\ay U' m' w'/\ce U' w' r v/\Ext ρ m w U' m' w'
def fV{β:Sort _}(v:CV)(k:CV->β):β:=
 match v with
 | .aA=>k .aA
 | .undef=>k .undef
 | .rv r=>match r with
  | .one c=>k (.rv (.one c))
  | .agg cs=>jr cs λcs=>k (.rv (.agg cs))
 | .bD rs=>k (.bD rs)
def Wv:List Value->List Value->Option Bool
 | [.int k x,.int l y],[.int k' x',.int l' y']=>match decide (k=k')&&decide (l=l')with|true=>some (x==x'&&y==y')|false=>none
 |_,_=>none
def tE:List CC->Option Value
 | [.ah (.val (.int k x)),.ah (.val (.int l y))]=>some (.agg #[.int k x,.int l y])
 |_=>none
def gz(a b:Value):Option Bool:=
 match a,b with
 | .int k x,.int k' y=>match decide (k=k')with|true=>some (x==y)|false=>none
 | .string x,.string y=>some (x==y)
 | .bool x,.bool y=>some (x==y)
 | .agg x,.agg y=>Wv x.toList y.toList
 |_,_=>none
def oe(k:Value):List ME->Option (Option RV)
 | []=>some none
 |e::es=>match gz k e.key with
  |some true=>some (some e.val)
  |some false=>oe k es
  |none=>none
def wA(k:Value)(v:RV):List ME->Option (List ME)
 | []=>some [⟨k,v⟩]
 |e::es=>match gz k e.key with
  |some true=>some (⟨k,v⟩::es)
  |some false=>match wA k v es with|some l=>some (e::l)|none=>none
  |none=>none
def iV(k:Value):List MO->Nat->Option (Option (Nat×MV))
 | [],_=>some none
 |e::es,n=>match gz k e.key with
  |some true=>some (some (n,e.val))
  |some false=>iV k es (n+1)
  |none=>none
def mU(k:Value)(v:MV):List MO->Option (List MO)
 | []=>some [⟨k,v⟩]
 |e::es=>match gz k e.key with
  |some true=>some (⟨k,v⟩::es)
  |some false=>match mU k v es with|some l=>some (e::l)|none=>none
  |none=>none
def wB(e:List CV)(m:Mem)(agg:Bool)(n:Nat)(a:CV)(K:CV->Prop):Prop:=
 match a with
 | .rv (.one (.ptr id j))=>ok (cF m id) λbk=>match bk with
  | .var cs=>ok (iU cs j n) λl=>ok (L7 agg l) K
  |_=>False
 | .rv (.one (.nI id esz i j))=>ok (cF m id) λbk=>match bk with
  | .row oK elems=>bB (Nat.beq esz oK) (ok (cF elems i) λcells=>ok (iU cells j n) λl=>bB (js l) (ok (L7 agg l) K) False) False
  |_=>False
 | .rv (.one (.rL ds))=>ok (wx ds n) λl=>ok (L7 agg l) K
 |_=>False
def fF(m:Mem)(esz:Nat)(v:CV):Option (List (List CC)):=
 match v with
 | .rv (.one (.ah (.sl e elems)))=>match Nat.beq e esz with
  |true=>some (elems.map λds=>ds.map .ah)
  |false=>none
 | .rv (.one (.row id e lo hi))=>match cF m id with
  |some (.row e2 rows)=>match Nat.beq e esz,Nat.beq e2 esz with
   |true,true=>some (b9 rows lo hi)
   |_,_=>none
  |_=>none
 | .rv (.one .aO)=>some []
 |_=>none
def jn(m:Mem)(v:CV):Mem:=
 match v with
 | .rv (.one (.row id _ _ _))=>aV m id .aS
 |_=>m
def wC(v:CV):Bool:=
 match v with
 | .rv (.one (.row _ _ _ _))=>true
 | .rv (.one .aO)=>true
 |_=>false
def Hy(a b:CV):Bool:=
 match a,b with
 | .rv (.one (.row i _ _ _)),.rv (.one (.row j _ _ _))=>!(Nat.beq i j)
 |_,_=>true
def CC.js:CC->Bool
 | .ei _ _=>false
 |_=>true
def qT:List CC->Bool
 | []=>true
 |c::r=>c.js&&qT r
def fH:List (List CC)->Bool
 | []=>true
 |c::r=>qT c&&fH r
def cU{α:Type}(l:List α)(h:Nat)(E:List α):List α:=l.take h++(E++l.drop (h+E.length))
def qU(hi:Option Nat)(n:Nat):Nat:=match hi with|some h=>h|none=>n
def qV(v:CV):Option Nat:=
 match v with
 | .rv (.one (.ah (.val (.int _ (.ofNat k)))))=>some k
 |_=>none
def li(e:List CV)(o:Option X)(d:Nat):Option Nat:=
 match o with
 |none=>some d
 |some x=>qV (x.ev e)
def Zt(v:CV):Bool:=
 match v with
 | .rv (.one (.ah (.val (.int _ n))))=>decide (n=0)
 |_=>false
def E4(e:List CV)(o:Option X):Bool:=
 match o with
 |none=>false
 |some x=>Zt (x.ev e)
def L8(v:CV):Bool:=
 match v with
 | .rv (.one (.ah (.sl _ _)))=>true
 | .rv (.one (.row _ _ _ _))=>true
 | .rv (.one .aO)=>true
 |_=>false
def wD:List (List CC)->Option (List Int)
 | []=>some []
 | [.ah (.val (.int .u8 n))]::r=>match wD r with|some l=>some (n::l)|none=>none
 |_=>none
def qW(s:ByteArray):List (List CC):=s.data.toList.map λb=>[.ah (.val (.int .u8 b.toNat))]
def HA(m:Mem)(v:CV):Option (List ME):=
 match v with
 | .rv (.one (.map id))=>match cF m id with|some (.mp es)=>some es|_=>none
 | .rv (.one (.ah (.val (.map none))))=>some []
 |_=>none
def TR(m:Mem)(v:CV):Option (Nat×Nat×List MO×Option (List Nat×Nat)):=
 match v with
 | .rv (.one (.map id))=>match cF m id with|some (.mo esz es so)=>some (id,esz,es,so)|_=>none
 |_=>none
def kR:Ky->Value->Bool
 | .i k,.int k' _=>decide (k'=k)
 | .s,.string _=>true
 | .b,.bool _=>true
 | .a2 k,.agg x=>match x.toList with| [.int k1 _,.int k2 _]=>decide (k1=k)&&decide (k2=k)|_=>false
 |_,_=>false
def uR(okF:Bool)(z:RV)(o:Option RV):CV:=
 match okF,o with
 |false,none=>.rv z
 |false,some v=>.rv v
 |true,none=>.bD [z,.one (.ah (.val (.bool false)))]
 |true,some v=>.bD [v,.one (.ah (.val (.bool true)))]
def rP:List ME->Option (List (Value×Value))
 | []=>some []
 |⟨k,.one (.ah (.val v))⟩::r=>match cw k&&cw v with
  |true=>(rP r).map ((k,v):: ·)
  |false=>none
 |_=>none
def step(P:Program)(i:I)(e:List CV)(m:Mem)(K:CV->Mem->Prop):Prop:=
 match i with
 | .aM x=>K (x.ev e) m
 | .pick c a b=>match c.ev e with
  | .rv (.one (.ah (.val (.bool t))))=>bB t (K (a.ev e) m) (K (b.ev e) m)
  |_=>False
 | .alloc z=>nJ m λn=>K (.rv (.one (.ptr n 0))) (gJ m [.var z])
 | .box x=>ok (cellsOf (x.ev e)) λcs=>nJ m λn=>K (.rv (.one (.ptr n 0))) (gJ m [.var cs])
 | .build z ps=>ok (oJ e z ps) λcs=>K (.rv (.agg cs)) m
 | .od esz z len ps=>ok (uQ e esz (gI len z) ps) λrows=>jr rows λrows=>nJ m λn=>K (.rv (.one (.row n esz 0 none))) (gJ m [.row esz rows])
 | .load agg n a=>wB e m agg n (a.ev e) λv=>K v m
 | .store n a x=>ok (cellsOf (x.ev e)) λxs=>bB (Nat.beq xs.length n) (match a.ev e with
  | .rv (.one (.ptr id j))=>ok (cF m id) λbk=>match bk with
   | .var cs=>ok (fX cs j xs) λfj=>K .undef (aV m id (.var fj))
   |_=>False
  | .rv (.one (.nI id esz i j))=>ok (cF m id) λbk=>match bk with
   | .row oK elems=>bB (Nat.beq esz oK) (ok (cF elems i) λcells=>bB (js cells) (ok (fX cells j xs) λfz=>K .undef (aV m id (.row oK (aV elems i fz)))) False) False
   |_=>False
  |_=>False) False
 | .b8 off a=>match a.ev e with
  | .rv (.one (.ptr id j))=>K (.rv (.one (.ptr id (j+off)))) m
  | .rv (.one (.nI id esz i j))=>K (.rv (.one (.nI id esz i (j+off)))) m
  | .rv (.one (.rL ds))=>K (.rv (.one (.rL (ds.drop off)))) m
  |_=>False
 | .Wp agg off n a=>match a.ev e with
  | .rv (.agg cs)=>ok (iU cs off n) λl=>ok (L7 agg l) λv=>K v m
  |_=>False
 | .cz esz a i=>match i.ev e with
  | .rv (.one (.ah (.val (.int _ n))))=>match a.ev e with
   | .rv (.one (.ah (.sl oK elems)))=>bB (Nat.beq esz oK) (ok (dD elems n) λds=>K (.rv (.one (.rL ds))) m) False
   | .rv (.one (.row id oK lo hi))=>ok (cF m id) λbk=>match bk with
    | .row rQ elems=>bB (Nat.beq esz oK) (bB (Nat.beq esz rQ) (ok (dZ n (lenOf elems.length lo hi)) λk=>K (.rv (.one (.nI id esz (iM lo k) 0))) m) False) False
    |_=>False
   |_=>False
  |_=>False
 | .wv len esz a i=>match i.ev e with
  | .rv (.one (.ah (.val (.int _ n))))=>match a.ev e with
   | .rv (.one (.ptr id j))=>ok (dZ n len) λk=>K (.rv (.one (.ptr id (j+k*esz)))) m
   | .rv (.one (.nI id s i' j))=>ok (dZ n len) λk=>K (.rv (.one (.nI id s i' (j+k*esz)))) m
   | .rv (.one (.rL ds))=>ok (dZ n len) λk=>K (.rv (.one (.rL (ds.drop (k*esz))))) m
   |_=>False
  |_=>False
 | .CK a i=>match i.ev e with
  | .rv (.one (.ah (.val (.int _ n))))=>match a.ev e with
   | .rv (.one (.ah (.val (.string s))))=>ok (dD s.data.toList n) λb=>K (am .u8 b.toNat) m
   |_=>False
  |_=>False
 | .aJ op x y=>match x.ev e with
  | .rv (.one (.ah (.val a)))=>match y.ev e with
   | .rv (.one (.ah (.val b)))=>ok (Jc op a b) λv=>K (.rv (.one (.ah (.val v)))) m
   |_=>False
  |_=>False
 | .PN neg n x y=>match x.ev e with
  | .rv (.agg cs)=>match y.ev e with
   | .rv (.agg ds)=>ok (kQ n cs ds) λb=>K (aD (match neg with|true=>!b|false=>b)) m
   |_=>False
  |_=>False
 | .beq neg x y=>match x.ev e with
  | .rv (.one (.ah (.val (.bool a))))=>match y.ev e with
   | .rv (.one (.ah (.val (.bool b))))=>K (aD (match neg with|true=>!(a==b)|false=>a==b)) m
   |_=>False
  |_=>False
 | .un op x=>match x.ev e with
  | .rv (.one (.ah (.val a)))=>ok (Zs op a) λv=>K (.rv (.one (.ah (.val v)))) m
  |_=>False
 | .conv k x=>match x.ev e with
  | .rv (.one (.ah (.val (.int _ n))))=>K (am k (k.wrap n)) m
  |_=>False
 | .Wq x=>match x.ev e with
  | .rv (.one (.ah (.val (.string s))))=>K (fb s) m
  |_=>False
 | .fn f eE=>ok (wy (Hx e eE)) λkJ=>K (.rv (.one (.fn f kJ))) m
 | .len 1 x=>match x.ev e with
  | .rv (.one (.ah (.sl _ elems)))=>K (am .i64 (elems.length:Int)) m
  | .rv (.one (.row id _ lo hi))=>ok (cF m id) λbk=>match bk with
   | .row _ elems=>K (am .i64 (lenOf elems.length lo hi:Int)) m
   |_=>False
  | .rv (.one .aO)=>K (am .i64 0) m
  |_=>False
 | .len 0 x=>match x.ev e with
  | .rv (.one (.ah (.val (.string s))))=>K (am .i64 (s.size:Int)) m
  |_=>False
 | .len 2 x=>match x.ev e with
  | .rv (.one (.map id))=>ok (cF m id) λbk=>match bk with
   | .mp es=>K (am .i64 (es.length:Int)) m
   |_=>False
  |_=>False
 | .call f args=>match f.ev e with
  | .rv (.one (.fn f eE))=>ap P f (gJ (Hx e args) (wd eE)) m K
  |_=>False
 | .ext x i=>match x.ev e with
  | .bD rs=>ok (cF rs i) λr=>K (.rv r) m
  |_=>False
 | .pO esz bytes dst src=>bB (wC (dst.ev e)&&Hy (dst.ev e) (src.ev e)) (ok (fF m esz (dst.ev e)) λE1=>ok (fF m esz (src.ev e)) λE2=>
   (E1.length+E2.length)*bytes<=140737488355328/\nJ m λn=>K (.rv (.one (.row n esz 0 none))) (gJ (jn (jn m (dst.ev e)) (src.ev e)) [.row esz (E1++E2)]))
   (match dst.ev e with
   | .rv (.one (.row id e1 lo (some h)))=>ok (cF m id) λbk=>match bk with
    | .row e2 rows=>ok (fF m esz (src.ev e)) λE2=>bB (Nat.beq lo 0&&(Nat.beq e1 esz&&(Nat.beq e2 esz&&(Nat.ble 1 rows.length&&(Nat.ble (h+E2.length) rows.length&&fH E2)))))
     (rows.length*bytes<=140737488355328/\K (.rv (.one (.row id esz 0 (some (h+E2.length))))) (aV m id (.row esz (cU rows h E2)))) False
    |_=>False
   |_=>False)
 | .yP neg x=>match x.ev e with
  | .rv (.one (.ah (.sl _ elems)))=>bB (Nat.beq elems.length 0) (K (aD true) m/\K (aD false) m) (K (aD neg) m)
  | .rv (.one (.row id _ lo hi))=>ok (cF m id) λbk=>match bk with
   | .row _ elems=>bB (Nat.beq (lenOf elems.length lo hi) 0) (K (aD true) m/\K (aD false) m) (K (aD neg) m)
   |_=>False
  | .rv (.one .aO)=>K (aD true) m/\K (aD false) m
  |_=>False
 | .oG esz x lo hi (some mx)=>bB (lo.isNone&&E4 e hi&&Zt (mx.ev e)&&L8 (x.ev e)) (K (.rv (.one .aO)) m)
   (ok (li e lo 0) λl=>ok (fF m esz (x.ev e)) λE=>ok (li e hi E.length) λh=>ok (qV (mx.ev e)) λWw=>bB (lo.isSome&&(hi.isSome&&(Nat.ble l h&&(Nat.ble h Ww&&Nat.ble Ww E.length)))) (K .aA m) False)
 | .oG esz x lo hi none=>ok (li e lo 0) λl=>match x.ev e with
  | .rv (.one (.ah (.sl e2 elems)))=>bB (Nat.beq e2 esz) (ok (li e hi elems.length) λh=>bB (Nat.ble l h&&Nat.ble h elems.length) (K (.rv (.one (.ah (.sl esz ((elems.take h).drop l))))) m) False) False
  | .rv (.one (.row id e2 E5 we))=>ok (cF m id) λbk=>match bk with
   | .row _ elems=>bB (Nat.beq e2 esz) (ok (li e hi (lenOf elems.length E5 we)) λh=>bB (Nat.ble l h&&Nat.ble h (elems.length-E5)) (K (.rv (.one (.row id esz (iM E5 l) (some (iM E5 h))))) m) False) False
   |_=>False
  |_=>False
 | .Jb x lo hi=>match x.ev e with
  | .rv (.one (.ah (.val (.string s))))=>ok (li e lo 0) λl=>ok (li e hi s.size) λh=>bB (Nat.ble l h&&Nat.ble h s.size) (K (fb (s.extract l h)) m) False
  |_=>False
 | .aP x=>match x.ev e with
  | .rv (.one (.ptr id j))=>K (.rv (.one (.ptr id j))) m
  | .rv (.one (.nI id s i j))=>K (.rv (.one (.nI id s i j))) m
  | .rv (.one (.rL ds))=>K (.rv (.one (.rL ds))) m
  |_=>False
 | .VR x=>ok (fF m 1 (x.ev e)) λE=>ok (wD E) λxs=>K (fb (strOfNums xs)) m
 | .Wr x=>match x.ev e with
  | .rv (.one (.ah (.val (.string s))))=>s.size<=140737488355328/\nJ m λn=>K (.rv (.one (.row n 1 0 none))) (gJ m [.row 1 (qW s)])
  |_=>False
 | .kq mx [x,y]=>match x.ev e with
  | .rv (.one (.ah (.val (.int k a))))=>match y.ev e with
   | .rv (.one (.ah (.val (.int _ b))))=>match mx with
    |true=>K (am k (if b>a then b else a)) m
    |false=>K (am k (if b<a then b else a)) m
   |_=>False
  |_=>False
 | .Zr x=>match x.ev e with
  | .rv (.one (.row id e1 lo hi))=>ok (cF m id) λbk=>match bk with
   | .row esz rows=>bB (Nat.beq esz 1&&Nat.blt lo rows.length) (K (.rv (.one (.row id e1 lo hi))) m) False
   |_=>False
  |_=>False
 | .VS esz z x=>match x.ev e with
  | .rv (.one (.row id e1 lo hi))=>ok (cF m id) λbk=>match bk with
   | .row e2 rows=>bB (Nat.beq e1 esz&&(Nat.beq e2 esz&&Nat.ble (qU hi rows.length) rows.length))
     (bB (Nat.blt lo (qU hi rows.length)) (K (.bD []) (aV m id (.row esz (cU rows lo (gI (qU hi rows.length-lo) z))))) (K (.bD []) m)) False
   |_=>False
  | .rv (.one .aO)=>K (.bD []) m
  |_=>False
 | .copy esz d s=>ok (fF m esz (s.ev e)) λE=>bB (Nat.beq E.length 0) (bB (L8 (d.ev e)) (K (am .i64 0) m) False)
   (match d.ev e with
   | .rv (.one (.row id e1 lo hi))=>ok (cF m id) λbk=>match bk with
    | .row e2 rows=>bB (Nat.beq e1 esz&&(Nat.beq e2 esz&&(Nat.ble (qU hi rows.length) rows.length&&(Nat.ble (lo+E.length) (qU hi rows.length)&&fH E)))) (K (am .i64 (E.length:Int)) (aV m id (.row esz (cU rows lo E)))) False
    |_=>False
   |_=>False)
 | .L5 agg n sz x i=>match i.ev e with
  | .rv (.one (.ah (.val (.int _ j))))=>match x.ev e with
   | .rv (.agg cs)=>ok (dZ j n) λk=>ok (iU cs (k*sz) sz) λl=>ok (L7 agg l) λv=>K v m
   |_=>False
  |_=>False
 | .Ws x=>match x.ev e with
  | .rv (.one (.map id))=>ok (cF m id) λbk=>match bk with
   | .mp es=>ok (rP es) λl=>nJ m λn=>K (.rv (.one (.ptr n 0))) (gJ (aV m id .aS) [.it [] l])
   | .mo esz es none=>∀(st:List Nat)(ip:Nat),st.length=es.length->st.Nodup->(∀s,s∈st->s<ip)->nJ m λn=>K (.rv (.one (.ptr n 0))) (gJ (aV m id (.mo esz es (some (st,ip)))) [.iw id ip []])
   |_=>False
  |_=>False
 | .tC x=>match x.ev e with
  | .rv (.one (.ptr id 0))=>ok (cF m id) λbk=>match bk with
   | .it _ left=>(left=[]->K (.bD [.one (.ah (.val (.bool false)))]) m)/\∀(i:Nat)(k v:Value)(Sv:List (Value×Value)),left[i]? =some (k,v)->Sv=left.eraseIdx i->K (.bD [.one (.ah (.val (.bool true))),.one (.ah (.val k)),.one (.ah (.val v))]) (aV m id (.it [(k,v)] Sv))
   | .iw mid ip seen=>ok (cF m mid) λb2=>match b2 with
    | .mo esz es (some (st,c2))=>c2=ip/\((∀s,s∈st->s∈seen)->K (.bD [.one (.ah (.val (.bool false)))]) (aV m mid (.mo esz es none)))/\
     ∀(i:Nat)(x:MO)(s:Nat),es[i]? =some x->st[i]? =some s->¬s∈seen->K (.bD [.one (.ah (.val (.bool true))),.one (.ah (.val x.key)),.one .aA]) (aV m id (.iw mid ip (s::seen)))
    |_=>False
   |_=>False
  |_=>False
 | .Wu x=>match x.ev e with
  | .rv (.one (.ptr id 0))=>ok (cF m id) λbk=>match bk with
   | .it (p::_) _=>K (.bD [.one (.ah (.val p.1)),.one (.ah (.val p.2))]) m
   | .iw mid ip (s::_)=>ok (cF m mid) λb2=>match b2 with
    | .mo _ es (some (st,c2))=>c2=ip/\∃(i:Nat)(x:MO),es[i]? =some x/\st[i]? =some s/\K (.bD [.one (.ah (.val x.key)),.one .aA]) m
    |_=>False
   |_=>False
  |_=>False
 | .rN=>nJ m λn=>K (.rv (.one (.map n))) (gJ m [.mp []])
 | .pP esz bytes z nx cx=>ok (qV (nx.ev e)) λl=>ok (qV (cx.ev e)) λc=>bB (Nat.beq l c) (c*bytes<=140737488355328/\nJ m λn=>K (.rv (.one (.row n esz 0 none))) (gJ m [.row esz (gI l z)])) False
 | .yQ z kk mx kx okF=>match kx.ev e with
  | .rv (.one (.ah (.val kv)))=>bB (kR kk kv) (match TR m (mx.ev e)with
   |some (id,esz,es,so)=>ok (iV kv es 0) λo=>match o with
    |none=>K (uR okF z none) m
    |some (_,.row n)=>K (uR okF z (some (.one (.row n esz 0 none)))) m
    |some (i,.ei l)=>nJ m λn=>K (uR okF z (some (.one (.row n esz 0 none)))) (gJ (aV m id (.mo esz (aV es i ⟨kv,.row n⟩) so)) [.row esz (l.map λds=>ds.map .ah)])
   |none=>ok (HA m (mx.ev e)) λes=>ok (oe kv es) λo=>K (uR okF z o) m) False
  | .rv (.agg cs)=>ok (tE cs) λkv=>bB (kR kk kv) (ok (HA m (mx.ev e)) λes=>ok (oe kv es) λo=>K (uR okF z o) m) False
  |_=>False
 | .tz kk mx kx vx=>match mx.ev e with
  | .rv (.one (.map id))=>match kx.ev e with
   | .rv (.one (.ah (.val kv)))=>bB (kR kk kv) (ok (cF m id) λbk=>match bk with
    | .mp es=>ok (CL (vx.ev e)) λv=>ok (wA kv v es) λbq=>K .undef (aV m id (.mp bq))
    | .mo esz es none=>match vx.ev e with
     | .rv (.one (.row n e1 lo hi))=>ok (cF m n) λb2=>match b2 with
      | .row e2 rows=>bB (Nat.beq e1 esz&&Nat.beq e2 esz) (∃(ds:List (List Dt))(bq:List MO),rows=ds.map (λd=>d.map .ah)/\mU kv (.ei (b9 ds lo hi)) es=some bq/\K .undef (aV (aV m n .aS) id (.mo esz bq none))) False
      |_=>False
     |_=>False
    |_=>False) False
   | .rv (.agg cs)=>ok (tE cs) λkv=>bB (kR kk kv) (ok (cF m id) λbk=>match bk with
    | .mp es=>ok (CL (vx.ev e)) λv=>ok (wA kv v es) λbq=>K .undef (aV m id (.mp bq))
    |_=>False) False
   |_=>False
  |_=>False
 | .L4 kk mx kx=>match mx.ev e with
  | .rv (.one (.map id))=>match kx.ev e with
   | .rv (.one (.ah (.val kv)))=>bB (kR kk kv) (ok (cF m id) λbk=>match bk with
    | .mo esz es (some (st,ip))=>ok (iV kv es 0) λo=>match o with
     |none=>K (.bD []) m
     |some (i,_)=>K (.bD []) (aV m id (.mo esz (es.eraseIdx i) (some (st.eraseIdx i,ip))))
    |_=>False) False
   |_=>False
  |_=>False
 |_=>False
def wF:Value->Option CC
 | .slice none 0 0=>some .aO
 |v=>match cw v with|true=>some (.ah (.val v))|false=>none
def bn:Operand->Option X
 | .tmp t=>some (.t t)
 | .const v=>(wF v).map λc=>.c (.rv (.one c))
 | .func f=>some (.c (.rv (.one (.fn f []))))
 | .global _=>none
def uS:List Operand->Option (List X)
 | []=>some []
 |x::r=>do some ((<-bn x)::(<-uS r))
def iA:Option Operand->Option (Option X)
 |none=>some none
 |some x=>do some (some (<-bn x))
def eL(P:Program)(t:TypeId):Option Nat:=(P.info? t).map (·.size)
def ec(P:Program)(t:TypeId):Option Bool:=(P.underlying t).map λ| .struct _| .array _ _=>true|_=>false
def mV:List Value->Option (List CC)
 | []=>some []
 |v::r=>do some ((<-wF v)::(<-mV r))
def ek(P:Program)(t:TypeId):Option (List CC):=do mV (<-(<-P.info? t).zero).cells.toList
def mW(P:Program)(fs:Array Field):List (Nat×Operand)->Option (List (Nat×Nat×X))
 | []=>some []
 |(i,x)::r=>do
  let f<-fs[i]?
  some ((f.offset,<-eL P f.type,<-bn x)::(<-mW P fs r))
def k8(sz:Nat):List (Nat×Operand)->Option (List (Nat×Nat×X))
 | []=>some []
 |(i,x)::r=>do some ((i*sz,sz,<-bn x)::(<-k8 sz r))
def k9:List (Nat×Operand)->Option (List (Nat×X))
 | []=>some []
 |(i,x)::r=>do some ((i,<-bn x)::(<-k9 r))
def CM(g:TypeId->Option (List Kd)):List Field->Nat->Option (List Kd)
 | [],_=>some []
 |f::r,off=>if f.name≠ "_" /\f.offset=off then
   match g f.type with
   |some ks=>match CM g r (off+ks.length)with
    |some ls=>some (ks++ls)
    |none=>none
   |none=>none
  else none
def flatK(P:Program):Nat->TypeId->Option (List Kd)
 |0,_=>none
 |d+1,t=>match P.underlying t with
  |some .bool=>if eL P t=some 1 then some [.b]else none
  |some (.int _)=>if eL P t=some 1 then some [.i]else none
  |some .string=>if eL P t=some 1 then some [.s]else none
  |some (.struct fs)=>if P.stoodInHeld t=false then
    match CM (flatK P d) fs.toList 0 with
    |some ks=>if eL P t=some ks.length then some ks else none
    |none=>none
   else none
  |_=>none
def oL(P:Program)(t:TypeId):Option Ky:=
 match P.underlying t with
 |some (.int k)=>some (.i k)
 |some .string=>some .s
 |some .bool=>some .b
 |some (.array n e)=>match P.underlying e with
  |some (.int k)=>if n=2/\eL P e=some 1 then some (.a2 k)else none
  |_=>none
 |_=>none
def CN(P:Program)(t:TypeId):Option RV:=do
 match (<-(<-P.info? t).zero)with
 | .agg cs=>do some (.agg (<-mV cs.toList))
 |v=>do some (.one (<-wF v))
def wG(P:Program)(o:Oper):Option I:=
 match o.op with
 | .move x| .assign x=>do some (.aM (<-bn x))
 | .pick c a b=>do some (.pick (<-bn c) (<-bn a) (<-bn b))
 | .alloc t=>do some (.alloc (<-ek P t))
 | .box _ x=>do some (.box (<-bn x))
 | .build t ps=>do
  let z<-ek P t
  match P.underlying t with
  |some (.struct fs)=>if(fs.toList.mapM (λf=>(P.info? f.type).map λi=>(f.offset,i.size))).isSome then some (.build z (<-mW P fs ps.toList))else none
  |some (.array _ e)=>some (.build z (<-k8 (<-eL P e) ps.toList))
  |_=>none
 | .buildSlice t n ps=>do
  match P.underlying t with
  |some (.slice e)=>
   let z<-ek P e
   if(<-eL P e)=z.length/\0<z.length/\n*z.length<=2^24 then some (.od z.length z n (<-k9 ps.toList))else none
  |_=>none
 | .load t a=>do some (.load (<-ec P t) (<-eL P t) (<-bn a))
 | .store t a x=>do
  let n<-eL P t
  if n=0 then none else some (.store n (<-bn a) (<-bn x))
 | .fieldAddr t a k=>do
  match P.underlying t with
  |some (.struct fs)=>
   let f<-fs[k]?
   if(<-eL P f.type)=0 then none else some (.b8 f.offset (<-bn a))
  |_=>none
 | .field t a k=>do
  match P.underlying t with
  |some (.struct fs)=>
   let f<-fs[k]?
   some (.Wp (<-ec P f.type) f.offset (<-eL P f.type) (<-bn a))
  |_=>none
 | .indexAddr t a i=>do
  match P.underlying t with
  |some (.slice e)=>some (.cz (<-eL P e) (<-bn a) (<-bn i))
  |some (.array n e)=>some (.wv n (<-eL P e) (<-bn a) (<-bn i))
  |_=>none
 | .index t a i=>do
  match P.underlying t with
  |some .string=>some (.CK (<-bn a) (<-bn i))
  |some (.array n e)=>some (.L5 (<-ec P e) n (<-eL P e) (<-bn a) (<-bn i))
  |_=>none
 | .binOp op t x y _=>do
  match P.underlying t with
  |some (.int _)|some .string=>some (.aJ op (<-bn x) (<-bn y))
  |some (.slice _)=>match y,op with
   | .const (.slice none 0 0),.eql=>some (.yP false (<-bn x))
   | .const (.slice none 0 0),.neq=>some (.yP true (<-bn x))
   |_,_=>none
  |some .bool=>match op with
   | .eql=>some (.beq false (<-bn x) (<-bn y))
   | .neq=>some (.beq true (<-bn x) (<-bn y))
   |_=>none
  |some (.array n e)=>match P.eqGuardType P.depth t,P.underlying e,eL P e,op with
   |false,some (.int _),some 1,.eql=>some (.PN false (gI n .i) (<-bn x) (<-bn y))
   |false,some (.int _),some 1,.neq=>some (.PN true (gI n .i) (<-bn x) (<-bn y))
   |_,_,_,_=>none
  |some (.struct _)=>match P.eqGuardType P.depth t,flatK P 5 t,op with
   |false,some ks,.eql=>some (.PN false ks (<-bn x) (<-bn y))
   |false,some ks,.neq=>some (.PN true ks (<-bn x) (<-bn y))
   |_,_,_=>none
  |_=>none
 | .unOp op _ x=>do some (.un op (<-bn x))
 | .convert s d x=>do
  match P.underlying s,P.underlying d with
  |some (.int _),some (.int k)=>some (.conv k (<-bn x))
  |some .string,some .string=>some (.Wq (<-bn x))
  |some (.slice e),some .string=>match P.underlying e with
   |some (.int .u8)=>some (.VR (<-bn x))
   |_=>none
  |some .string,some (.slice e)=>match P.underlying e with
   |some (.int .u8)=>some (.Wr (<-bn x))
   |_=>none
  |some (.slice _),some (.slice e)=>match s==d,P.underlying e with
   |true,some (.int .u8)=>some (.Zr (<-bn x))
   |_,_=>none
  |_,_=>none
 | .makeMap t r=>match r,P.underlying t with
  |none,_=>some .rN
  |some (.const (.int _ _)),some (.map _ _)=>some .rN
  |_,_=>none
 | .makeSlice t l c=>do
  match P.underlying t with
  |some (.slice e)=>
   let i<-P.info? e;let z<-ek P e
   if i.size=z.length/\0<z.length/\0<i.bytes then some (.pP i.size i.bytes z (<-bn l) (<-bn c))else none
  |_=>none
 | .lookup t x k b=>do
  match P.underlying t with
  |some (.map kt vt)=>some (.yQ (<-CN P vt) (<-oL P kt) (<-bn x) (<-bn k) b)
  |_=>none
 | .mapUpdate t x k v| .insert t x k v=>do
  match P.underlying t with
  |some (.map kt _)=>some (.tz (<-oL P kt) (<-bn x) (<-bn k) (<-bn v))
  |_=>none
 | .makeFunc (.func f) fst eE=>if fst.size=0 then do some (.fn f (<-uS eE.toList))else none
 | .extract x i=>do some (.ext (<-bn x) i)
 | .nilCheck x=>do some (.aP (<-bn x))
 | .range t x=>match P.underlying t with
  |some (.map _ _)=>do some (.Ws (<-bn x))
  |_=>none
 | .next it false=>do some (.tC (<-bn it))
 | .entry it=>do some (.Wu (<-bn it))
 | .slice t x lo hi mx=>do
  match P.underlying t with
  |some (.slice e)=>some (.oG (<-eL P e) (<-bn x) (<-iA lo) (<-iA hi) (<-iA mx))
  |some .string=>match mx with
   |none=>some (.Jb (<-bn x) (<-iA lo) (<-iA hi))
   |some _=>none
  |_=>none
 | .call {callee:= .builtin .len,args,argTypes}=>do
  match args.toList,argTypes.toList with
  | [x],[t]=>match P.underlying t with
   |some .string=>some (.len 0 (<-bn x))
   |some (.slice _)=>some (.len 1 (<-bn x))
   |some (.map _ _)=>some (.len 2 (<-bn x))
   |_=>none
  |_,_=>none
 | .call {callee:= .builtin .append,args,argTypes}=>do
  match args.toList,argTypes.toList with
  | [x,y],[t,t2]=>match P.underlying t,P.underlying t2 with
   |some (.slice e),some (.slice e2)=>
    let i<-P.info? e;let z<-ek P e
    if i.size=z.length/\0<z.length/\0<i.bytes then some (.pO i.size i.bytes (<-bn x) (<-bn y))else none
   |_,_=>none
  |_,_=>none
 | .call {callee:= .builtin .max,args,..}=>do
  match args.toList with
  | [x,y]=>some (.kq true [<-bn x,<-bn y])
  |_=>none
 | .call {callee:= .builtin .min,args,..}=>do
  match args.toList with
  | [x,y]=>some (.kq false [<-bn x,<-bn y])
  |_=>none
 | .call {callee:= .builtin .clear,args,argTypes}=>do
  match args.toList,argTypes.toList with
  | [x],[t]=>match P.underlying t with
   |some (.slice e)=>
    let i<-P.info? e;let z<-ek P e
    if i.size=z.length then some (.VS i.size z (<-bn x))else none
   |_=>none
  |_,_=>none
 | .call {callee:= .builtin .copy,args,argTypes}=>do
  match args.toList,argTypes.toList with
  | [x,y],[t,_]=>match P.underlying t with
   |some (.slice e)=>
    let i<-P.info? e;let z<-ek P e
    if i.size=z.length then some (.copy i.size (<-bn x) (<-bn y))else none
   |_=>none
  |_,_=>none
 | .call {callee:= .builtin .delete,args,argTypes}=>do
  match args.toList,argTypes.toList with
  | [x,y],t::_=>match P.underlying t with
   |some (.map kt _)=>some (.L4 (<-oL P kt) (<-bn x) (<-bn y))
   |_=>none
  |_,_=>none
 | .call {callee:= .value f,args,..}=>do some (.call (<-bn f) (<-uS args.toList))
 |_=>none
def L9:I:= .kq true []
def tF(P:Program)(o:Oper):Option I:=
 match wG P o with
 |some i=>some i
 |none=>match o.op with
  | .defer _=>none
  |_=>some L9
theorem Qa(P:Program){e:List CV}{m:Mem}{K:CV->Mem->Prop}:step P L9 e m K=False:=rfl
theorem E6{P:Program}{o:Oper}{i:I}(h:tF P o=some i):wG P o=some i\/i=L9:=by
 unfold tF at h;split at h
 .rename_i j hj;exact .inl (by rw[hj];exact h)
 .split at h
  .cases h
  .cases h;exact .inr rfl
def Ma(ops:Array Oper):Option (Nat×Bool)->Option (Option (Nat×Bool))
 |none=>some none
 |some (j,b)=>do some (some (<-(<-ops[j]?).dst,b))
def wH(P:Program)(ops:Array Oper)(o:Oper):Option LO:=do some ⟨o.dst,<-tF P o,<-Ma ops o.guard⟩
def mX(P:Program)(ops:Array Oper):List Oper->Option (List LO)
 | []=>some []
 |o::r=>do some ((<-wH P ops o)::(<-mX P ops r))
def I.xs:I->List X
 | .aM x=>[x]
 | .pick c a b=>[c,a,b]
 | .alloc _=>[]
 | .box x=>[x]
 | .build _ ps=>ps.map λp=>p.2.2
 | .od _ _ _ ps=>ps.map λp=>p.2
 | .load _ _ a=>[a]
 | .store _ a x=>[a,x]
 | .b8 _ a=>[a]
 | .Wp _ _ _ a=>[a]
 | .cz _ a i=>[a,i]
 | .wv _ _ a i=>[a,i]
 | .CK a i=>[a,i]
 | .aJ _ x y=>[x,y]
 | .PN _ _ x y=>[x,y]
 | .beq _ x y=>[x,y]
 | .un _ x=>[x]
 | .conv _ x=>[x]
 | .Wq x=>[x]
 | .Wr x=>[x]
 | .VR x=>[x]
 | .oG _ x lo hi mx=>x::(lo.toList++hi.toList++mx.toList)
 | .Jb x lo hi=>x::(lo.toList++hi.toList)
 | .fn _ eE=>eE
 | .len _ x=>[x]
 | .pO _ _ d s=>[d,s]
 | .call f args=>f::args
 | .ext x _=>[x]
 | .aP x=>[x]
 | .yP _ x=>[x]
 | .rN=>[]
 | .pP _ _ _ n c=>[n,c]
 | .yQ _ _ m k _=>[m,k]
 | .tz _ m k v=>[m,k,v]
 | .kq _ xs=>xs
 | .L4 _ m k=>[m,k]
 | .copy _ d s=>[d,s]
 | .VS _ _ x=>[x]
 | .L5 _ _ _ x i=>[x,i]
 | .Zr x=>[x]
 | .Ws x=>[x]
 | .tC x=>[x]
 | .Wu x=>[x]
def l9:List X->List Nat
 | []=>[]
 | .t n::r=>n::l9 r
 | .c _::r=>l9 r
def LO.looks(lo:LO):List Nat:=
 match lo.guard with
 |none=>l9 lo.Cy.xs
 |some (s,_)=>s::l9 lo.Cy.xs
def zr:I->Bool
 | .aM _| .pick .. | .build .. | .b8 .. | .Wp .. | .L5 .. | .wv .. | .CK .. | .aJ .. | .PN .. | .beq .. | .un .. | .conv .. | .Wq .. | .fn .. | .ext .. | .aP _| .Jb .. =>true
 |_=>false
def tG(i:I):Bool:=zr i||match i with| .load .. | .cz .. | .len .. | .oG .. =>true|_=>false
def AO(fc:List Nat)(l:List Nat):Nat:=l.foldr (λj m=>Nat.lor m (Nat.lor (Nat.shiftLeft 1 j) ((cF fc j).getD 0))) 0
def E7(ic:List (List Nat))(fc:List Nat):List Nat:=ic.map (AO fc)
def AP(ic:List (List Nat)):Nat->List Nat->List Nat
 |0,fc=>fc
 |k+1,fc=>let a:=E7 ic fc;match a==fc with|true=>fc|false=>AP ic k a
def bt(n:Nat)(ic:List (List Nat)):List Nat:=AP ic n []
def nK(ms:List Nat)(i j:Nat):Bool:=Nat.testBit ((cF ms i).getD 0) j
def dg(bW:List LO)(t j:Nat):Bool:=match cF bW j with|some lo=>(match lo.dst with|some d=>Nat.beq d t|none=>false)|none=>false
def oM(bW:List LO)(j:Nat):List Nat:=match cF bW j with|some lo=>lo.looks|none=>[]
def Jd(bW:List LO)(j:Nat):Option Nat:=match cF bW j with|some lo=>lo.dst|none=>none
def E8(bW:List LO)(j:Nat):Bool:=match cF bW j with|some lo=>zr lo.Cy|none=>false
def ma(bW:List LO)(j:Nat):Bool:=match cF bW j with|some lo=>tG lo.Cy|none=>false
def nH.hd:nH->List Nat
 | .nil=>[]
 | .cons i _ _=>[i]
 | .ww a b=>a.hd++b.hd
def HB(bW:List LO)(ms:List Nat)(n:Nat)(bf:List Nat)(i:Nat):Bool:=
 Nat.blt i n&& !(bf.contains i)&&
  ((oM bW i).all λt=>bf.all λj=>!(dg bW t j)||nK ms i j)&&
  (match Jd bW i with|none=>true|some t=>bf.all λj=>!(dg bW t j)&&(!((oM bW j).contains t)||nK ms i j))
def TS(ms:List Nat)(n:Nat)(bf hd:List Nat):Bool:=(List.range n).all λi=>bf.contains i||(hd.contains i||hd.any λf=>nK ms i f)
def ef(bW:List LO)(ms:List Nat)(n:Nat):Bool->List Nat->nH->Bool
 |c,bf,.nil=>c&&(List.range n).all λi=>bf.contains i
 |c,bf,.cons i none r=>c&&(HB bW ms n bf i&&(ma bW i&&ef bW ms n true (i::bf) r))
 |c,bf,.cons i (some l) r=>(!c||TS ms n bf [i])&&(HB bW ms n bf i&&((bf.all λj=>!(ma bW j)||(nK ms i j||(E8 bW j||l.contains j)))&&ef bW ms n true (i::bf) r))
 |c,bf,.ww x y=>(!c||TS ms n bf (x.hd++y.hd))&&(ef bW ms n false bf x&&ef bW ms n false bf y)
def zs(ic:List (List Nat))(n:Nat):List Nat->List Nat->Bool
 |bf,[]=>(List.range n).all λi=>bf.contains i
 |bf,i::r=>Nat.blt i n&&((cF ic i).getD []).all (λj=>bf.contains j)&&zs ic n (i::bf) r
def Wx(ic:List (List Nat))(n:Nat):Nat->List Nat->List Nat
 |0,_=>[]
 |k+1,bf=>match (List.range n).find? λi=>!(bf.contains i)&&((cF ic i).getD []).all (λj=>bf.contains j)with
  |some i=>i::Wx ic n k (i::bf)
  |none=>[]
def rR(bW:List LO)(ic:List (List Nat))(sched:nH):Bool:=
 zs ic bW.length [] (Wx ic bW.length bW.length [])&&ef bW (bt bW.length ic) bW.length true [] sched
def Mb(bW:List LO)(ms:List Nat)(CO:List Nat)(done:List Nat)(i:Nat):Bool:=
 !(done.contains i)&&ma bW i&&CO.all λf=>done.contains f|| !(nK ms i f)
def Sw:List Nat->nH->nH
 | [],r=>r
 |i::l,r=>.cons i none (Sw l r)
def Wy:List nH->nH
 | []=>.nil
 | [x]=>x
 |x::r=>.ww x (Wy r)
def HC(bW:List LO)(ms:List Nat)(all CO:List Nat):Nat->List Nat->nH
 |0,_=>.nil
 |k+1,done=>
  let Zu:=all.filter (Mb bW ms CO done);let Sx:=Zu.reverse++done;let left:=CO.filter λf=>!(done.contains f)
  Sw Zu (Wy ((left.filter λf=>left.all λg=>Nat.beq g f|| !(nK ms f g)).map λf=>
   .cons f (some (Sx.filter λj=>ma bW j&& !(nK ms f j||E8 bW j))) (HC bW ms all CO k (f::Sx))))
def HD(bW:List LO)(ic:List (List Nat)):nH:=
 let ms:=bt bW.length ic;let all:=List.range bW.length;let CO:=all.filter λi=>!(ma bW i)
 HC bW ms all CO (CO.length+1) []
def lj(md:Region.Mode)(ops:Array Oper):List (List Nat):=ops.toList.map λo=>(o.after.toList.filter (Region.binds md)).map (·.on)
def wg(P:Program)(ops:Array Oper):List Region.Mode:=if(P.follows .mixedOrders|| !(Region.departs ops))=true then [.any]else [.text,.gc]
def wI(P:Program)(bW:List LO)(ops:Array Oper):Option (List nH):=
 let ms:=wg P ops;let s:=HD bW (lj .any ops)
 if(ms.all λmd=>rR bW (lj md ops) s)=true then some [s]
 else
  let ss:=ms.map λmd=>HD bW (lj md ops)
  if(ms.all λmd=>ss.any λs=>rR bW (lj md ops) s)=true then some ss else none
def d7(P:Program):Code->Option LC
 | .skip=>some .skip
 | .region _ ops true=>do
  let bW<-mX P ops ops.toList
  some (.bV bW (<-wI P bW ops))
 | .region _ ops false=>do some (.ai (<-mX P ops ops.toList))
 | .seq a b=>do some (.seq (<-d7 P a) (<-d7 P b))
 | .cond x a b=>do some (.cond (<-bn x) (<-d7 P a) (<-d7 P b))
 | .block id b=>do some (.block id (<-d7 P b))
 | .loop b=>do some (.loop (<-d7 P b))
 | .exit id=>some (.exit id)
 | .ret=>some .ret
 | .rangeFunc f ps a c=>do
  match ps.toList with
  | [p]=>
   let la<-d7 P a;let lc<-d7 P c
   if(la.rO&&lc.rO)=true then some (.yR (<-bn f) p la lc)else none
  |_=>none
 |_=>none
def oN(P:Program):List ResultVar->Option (List Rv)
 | []=>some []
 | .tmp t::r=>do some (.tmp t::(<-oN P r))
 | .cell a t::r=>do some (.cell (<-ec P t) (<-eL P t) a::(<-oN P r))
def bz(P:Program)(fn:Func):Option LF:=do
 some ⟨fn.ntmps,<-oN P fn.results.toList,<-d7 P (<-fn.body)⟩
inductive Ex where
 |normal
 |exit (id:Nat)
 |ret
def put(d:Option Nat)(v:CV)(e:List CV)(K:List CV->Prop):Prop:=
 match d with
 |none=>K e
 |some d=>fV v λv=>jr (aV e d v) K
def HE(P:Program)(o:LO)(ih:(List CV->Mem->Prop)->List CV->Mem->Prop)(K:List CV->Mem->Prop)(e:List CV)(m:Mem):Prop:=
  match o.guard with
  |none=>step P o.Cy e m λv m'=>jr m' λm'=>put o.dst v e λe'=>ih K e' m'
  |some (s,ku)=>
   match kP e s with
   | .undef=>put o.dst .undef e λe'=>ih K e' m
   | .rv (.one (.ah (.val (.bool t))))=>bB t
    (jr (aV e s (aD true)) λe=>match ku with
     |true=>step P o.Cy e m λv m'=>jr m' λm'=>put o.dst v e λe'=>ih K e' m'
     |false=>put o.dst .undef e λe'=>ih K e' m)
    (jr (aV e s (aD false)) λe=>match ku with
     |false=>step P o.Cy e m λv m'=>jr m' λm'=>put o.dst v e λe'=>ih K e' m'
     |true=>put o.dst .undef e λe'=>ih K e' m)
   |_=>False
def Je(P:Program)(l:List LO):(List CV->Mem->Prop)->List CV->Mem->Prop:=
 @List.rec LO (λ_=>(List CV->Mem->Prop)->List CV->Mem->Prop) (λK e m=>K e m) (λo _ ih K e m=>HE P o ih K e m) l
theorem zt{P:Program}{o:LO}{r:List LO}{K:List CV->Mem->Prop}{e:List CV}{m:Mem}:Je P (o::r) K e m=HE P o (Je P r) K e m:=rfl
def og(P:Program)(lo:LO)(e:List CV)(m:Mem)(K:List CV->CV->Mem->Prop):Prop:=
 match lo.guard with
 |none=>step P lo.Cy e m λv m'=>jr m' λm'=>K e v m'
 |some (s,ku)=>match kP e s with
  | .undef=>K e .undef m
  | .rv (.one (.ah (.val (.bool t))))=>bB t
   (jr (aV e s (aD true)) λe=>match ku with
    |true=>step P lo.Cy e m λv m'=>jr m' λm'=>K e v m'
    |false=>K e .undef m)
   (jr (aV e s (aD false)) λe=>match ku with
    |false=>step P lo.Cy e m λv m'=>jr m' λm'=>K e v m'
    |true=>K e .undef m)
  |_=>False
def wJ(j:Nat):List (Nat×LO×List CV×CV)->Option (LO×List CV×CV)
 | []=>none
 |(i,x)::r=>match Nat.beq i j with|true=>some x|false=>wJ j r
def AQ(P:Program)(m:Mem)(eu:List (Nat×LO×List CV×CV))(l:List Nat):Prop:=
 @List.rec Nat (λ_=>Prop) True (λj _ ih=>(ok (wJ j eu) λx=>og P x.1 x.2.1 m λ_ v _=>v=x.2.2)/\ih) l
theorem Mc{P:Program}{m:Mem}{eu:List (Nat×LO×List CV×CV)}{j:Nat}{r:List Nat}:AQ P m eu (j::r)=((ok (wJ j eu) λx=>og P x.1 x.2.1 m λ_ v _=>v=x.2.2)/\AQ P m eu r):=rfl
def HF(P:Program)(bW:List LO)(i:Nat)(L6:Option (List Nat))(ih:List (Nat×LO×List CV×CV)->(List CV->Mem->Prop)->List CV->Mem->Prop)(eu:List (Nat×LO×List CV×CV))(K:List CV->Mem->Prop)(e:List CV)(m:Mem):Prop:=
 ok (cF bW i) λlo=>og P lo e m λe1 v m'=>put lo.dst v e1 λe'=>
  match L6 with
  |none=>ih ((i,lo,e,v)::eu) K e' m'
  |some l=>AQ P m' eu l/\ih eu K e' m'
def vF(P:Program)(bW:List LO)(sch:nH):List (Nat×LO×List CV×CV)->(List CV->Mem->Prop)->List CV->Mem->Prop:=
 @nH.rec (λ_=>List (Nat×LO×List CV×CV)->(List CV->Mem->Prop)->List CV->Mem->Prop) (λ_ K e m=>K e m)
  (λi L6 _ ih eu K e m=>HF P bW i L6 ih eu K e m) (λ_ _ TT TU eu K e m=>TT eu K e m/\TU eu K e m) sch
theorem zu{P:Program}{bW:List LO}{i:Nat}{L6:Option (List Nat)}{r:nH}{eu:List (Nat×LO×List CV×CV)}{K:List CV->Mem->Prop}{e:List CV}{m:Mem}:
  vF P bW (.cons i L6 r) eu K e m=HF P bW i L6 (vF P bW r) eu K e m:=rfl
theorem Md{P:Program}{bW:List LO}{a b:nH}{eu:List (Nat×LO×List CV×CV)}{K:List CV->Mem->Prop}{e:List CV}{m:Mem}:
  vF P bW (.ww a b) eu K e m=(vF P bW a eu K e m/\vF P bW b eu K e m):=rfl
def TV(x:X)(v:CV)(e:List CV):List CV:=
 match x with
 | .t n=>aV e n v
 | .c _=>e
def kS:Nat->List (Nat×CV)->List CV
 |n,as=>go n as (gI n .aA)
 where go:Nat->List (Nat×CV)->List CV->List CV
 |_,[],e=>e
 |n,(s,v)::r,e=>aV (go n r e) s v
inductive mY:Mem->Mem->Prop
 |nil (m:Mem):mY m []
 |cons {b b':Bk} {m m':Mem} (h:b'=b\/b'= .aS) (hm:mY m m'):mY (b::m) (b'::m')
def CC.du(n:Nat):CC->Prop
 | .ptr id _=>id<n
 | .nI id _ _ _=>id<n
 | .row id _ _ _=>id<n
 | .map id=>id<n
 | .fn _ eE=>∀id,id∈eE->id<n
 |_=>True
def RV.du(n:Nat):RV->Prop
 | .one c=>c.du n
 | .agg cs=>∀c,c∈cs->c.du n
def CV.du(n:Nat):CV->Prop
 | .rv r=>r.du n
 | .bD rs=>∀r,r∈rs->r.du n
 |_=>True
def Bk.du(n:Nat):Bk->Prop
 | .aS=>True
 | .var cs=>∀c,c∈cs->c.du n
 | .row _ elems=>∀cs,cs∈elems->∀c,c∈cs->c.du n
 | .mp es=>∀e,e∈es->e.val.du n
 | .it _ _=>True
 | .mo _ es _=>∀e,e∈es->(e.cc 0).du n
 | .iw mid _ _=>mid<n
structure Me(n0:Nat)(s s':St):Prop where
 n0:n0<=s'.mem.length
 len:s'.aX.length=s.aX.length
 aX:∀(i:Nat)v,s'.aX[i]? =some v->v= .aA\/(s.aX[i]? =some v/\(s'.mem.length=s.mem.length\/v.du s'.mem.length))
 mem:mY s.mem s'.mem
 kJ:s'.mem.length=s.mem.length\/∀b,b∈s'.mem->b.du s'.mem.length
structure TW(n0:Nat)(ρ:bI)(m:Mem)(U':bI)(m':Mem):Prop where
 aI:∀id,id<n0->U'.aI (.aj id)=ρ.aI (.aj id)
 S:∀b,ρ.S b->U'.S b
 S':∀b,U'.S b->ρ.S b\/∃k,Live ρ m k/\(ρ.aI k).b=b
 aL:∀k,Live U' m' k->∃k0,Live ρ m k0/\(ρ.aI k0).b=(U'.aI k).b
structure View(n0:Nat)(s s':St):Prop where
 hn:n0<=s'.mem.length
 len:s'.aX.length=s.aX.length
 go:∀(ρ:bI)(w:World),ay ρ s.mem w->∃U',ay U' s'.mem w/\TW n0 ρ s.mem U' s'.mem/\∀(i:Nat)c',s'.aX[i]? =some c'->∃c,s.aX[i]? =some c/\∀v,ce ρ w c v->ce U' w c' v
def TY(f:(Ex->St->Prop)->St->Prop)(K:Ex->St->Prop)(ex:Ex)(s:St):Prop:=
 match ex with
 | .normal=>f K s
 | .exit id=>K (.exit id) s
 | .ret=>K .ret s
def E9(id:Nat)(K:Ex->St->Prop)(ex:Ex)(s:St):Prop:=
 match ex with
 | .normal=>K .normal s
 | .exit kK=>bB (Nat.beq kK id) (K .normal s) (K (.exit kK) s)
 | .ret=>K .ret s
def HG(n0:Nat){α:Type}(J:α->Prop)(S:α->St)(μ:α->Nat)(n:Nat)(K:Ex->St->Prop)(ex:Ex)(s:St):Prop:=
 match ex with
 | .normal=>∃a,J a/\μ a<n/\View n0 s (S a)
 | .exit id=>K (.exit id) s
 | .ret=>K .ret s
def Jf(K:Ex->St->Prop)(e:List CV)(m:Mem):Prop:=K .normal ⟨e,m⟩
def qv:Mem->List Nat->Mem
 |m,[]=>m
 |m,id::r=>qv (aV m id .aS) r
def AR(m:Mem):List Nat->List Value->Prop
 | [],[]=>True
 |id::r,v::vs=>(cF m id=some (.var [.ah (.val v)])/\cw v=true)/\AR m r vs
 |_,_=>False
def rS(as:List (Nat×Nat)):List Value:=as.map λa=>Value.pointer (some ⟨a.1,a.2,none⟩)
def Sy(P:Program)(l:Nat)(args:Array Value)(W:World)(R:Ending->World->Prop):Prop:=
 ∃fn tmps assign body,(Instr.yield l args).run P W= .ok (.round l fn tmps assign body) W/\RoundIn Fence.wide 0 P l fn tmps assign body W R
def Wz(P:Program)(gf:Nat)(cs:List Value)(xs:List ByteArray):Prop:=
 (∃fn,P.funcs[gf]? =some fn/\fn.body.isSome=true/\(fn.name== "runtime.NumGoroutine")=false)/\
 ∀(l:Nat)(as:List (Nat×Nat))(W:World)(J:Nat->World->Prop)(Jx:World->Prop),as.length=cs.length->(as.map (·.1)).Nodup->
  (∀(i:Nat)a v,as[i]? =some a->cs[i]? =some v->W.cell? ⟨a.1,a.2,none⟩=some v/\W.frozen? ⟨a.1,a.2,none⟩=false)->
  (∀k W W',J k W->W.heap.size<=W'.heap.size->(∀b,b<W.heap.size->(∀a,a∈as->b≠a.1)->W'.heap[b]? =W.heap[b]?)->W'.os=W.os->W'.tape=W.tape->W'.output=W.output->J k W')->
  (∀W W',Jx W->W.heap.size<=W'.heap.size->(∀b,b<W.heap.size->(∀a,a∈as->b≠a.1)->W'.heap[b]? =W.heap[b]?)->W'.os=W.os->W'.tape=W.tape->W'.output=W.output->Jx W')->
  (∀k y W,xs[k]? =some y->J k W->Sy P l #[.string y] W λe W'=>
   (e= .returned (.bool true)/\J (k+1) W'/\W.heap.size<=W'.heap.size/\∀a,a∈as->W'.heap[a.1]? =W.heap[a.1]?)\/(e= .returned (.bool false)/\Jx W'))->
  J 0 W->
  CallsIn Fence.wide 0 P gf (#[.func (.yield l) #[] #[]]++(rS as).toArray) W λe W'=>(∃v,e= .returned v)/\(J xs.length W'\/Jx W')
def aae(n0:Nat){α:Type}(J:Nat->α->Prop)(S:α->St)(k:Nat)(aX:List CV)(K:Ex->St->Prop)(ex:Ex)(s:St):Prop:=
 match ex with
 | .normal=>∃a,J (k+1) a/\View n0 ⟨aX,s.mem⟩ (S a)
 | .exit id=>K (.exit id) ⟨aX,s.mem⟩
 | .ret=>K .ret ⟨aX,s.mem⟩
def Qb(P:Program)(bW:List LO)(K:Ex->St->Prop)(s:St):List nH->Prop
 | []=>True
 | [x]=>vF P bW x [] (Jf K) s.aX s.mem
 |x::y::r=>vF P bW x [] (Jf K) s.aX s.mem/\Qb P bW K s (y::r)
def aw(P:Program)(n0:Nat):LC->(Ex->St->Prop)->St->Prop
 | .skip,K,s=>K .normal s
 | .ai ops,K,s=>Je P ops (Jf K) s.aX s.mem
 | .bV bW qS,K,s=>Qb P bW K s qS
 | .seq a b,K,s=>aw P n0 a (TY (aw P n0 b) K) s
 | .cond x a b,K,s=>match x.ev s.aX with
  | .rv (.one (.ah (.val (.bool t))))=>bB t
   (jr (TV x (aD true) s.aX) λe=>aw P n0 a K ⟨e,s.mem⟩)
   (jr (TV x (aD false) s.aX) λe=>aw P n0 b K ⟨e,s.mem⟩)
  |_=>False
 | .block id b,K,s=>aw P n0 b (E9 id K) s
 | .loop b,K,s=>∃(α:Type)(J:α->Prop)(S:α->St)(μ:α->Nat),(∃a,J a/\View n0 s (S a))/\∀a,J a->aw P n0 b (HG n0 J S μ (μ a) K) (S a)
 | .exit id,K,s=>K (.exit id) s
 | .ret,K,s=>K .ret s
 | .cX a,K,s=>∃s',View n0 s s'/\aw P n0 a K s'
 | .yR x p la lb,K,s=>∃(gf:Nat)(kJ:List Nat)(cs:List Value)(xs:List ByteArray)(α:Type)(J:Nat->α->Prop)(S:α->St),
   x.ev s.aX= .rv (.one (.fn gf kJ))/\AR s.mem kJ cs/\(kJ.Nodup/\kJ≠[])/\Wz P gf cs xs/\(∃a,J 0 a/\View n0 ⟨s.aX,qv s.mem kJ⟩ (S a))/\
   (∀k y a,xs[k]? =some y->J k a->nJ (S a).mem λn1=>aw P n1 la (λex s2=>match ex with
    | .normal=>nJ s2.mem λn2=>aw P n2 lb (aae n0 J S k (S a).aX K) s2
    |_=>False) ⟨aV (S a).aX p (fb y),(S a).mem⟩)/\
   ∀a,J xs.length a->K .normal (S a)
def CP(P:Program)(s:St):List Rv->(List RV->Prop)->Prop
 | [],K=>K []
 | .tmp t::r,K=>ok (CL (kP s.aX t)) λv=>CP P s r λvs=>K (v::vs)
 | .cell agg n t::r,K=>wB s.aX s.mem agg n (kP s.aX t) λv=>ok (CL v) λv=>CP P s r λvs=>K (v::vs)
def TZ:List RV->CV
 | [r]=>.rv r
 |rs=>.bD rs
def oO(P:Program)(l8:List Rv)(K:CV->Mem->Prop)(ex:Ex)(s:St):Prop:=
 match ex with
 | .exit _=>False
 |_=>CP P s l8 λvs=>K (TZ vs) s.mem
def body(P:Program)(lf:LF)(args:List CV)(m:Mem)(K:CV->Mem->Prop):Prop:=
 jr (gJ args (gI (lf.n-args.length) .undef)) λe=>nJ m λn0=>aw P n0 lf.code (oO P lf.l8 K) ⟨e,m⟩
abbrev qm(d s:Nat):LO:=⟨some d,.aM (.t s),none⟩
abbrev qu(d:Nat)(i:I):LO:=⟨some d,i,none⟩
abbrev qw(i:I):LO:=⟨none,i,none⟩
abbrev qg(d:Nat)(i:I)(s:Nat)(b:Bool):LO:=⟨some d,i,some (s,b)⟩
abbrev qf(d k s:Nat):LO:=⟨some d,.b8 k (.t s),none⟩
abbrev ql(d s:Nat):LO:=⟨some d,.load false 1 (.t s),none⟩
abbrev qL(d n s:Nat):LO:=⟨some d,.load true n (.t s),none⟩
abbrev qi(n:Int):X:= .c (.rv (.one (.ah (.val (.int .i64 n)))))
abbrev qb(b:Bool):X:= .c (.rv (.one (.ah (.val (.bool b)))))
abbrev qe:X:= .c (.rv (.one .aO))
abbrev qd(n:Int):CC:= .ah (.val (.int .i64 n))
abbrev qc(f:Nat)(a:List X):I:= .call (.c (.rv (.one (.fn f [])))) a
instance(n:Nat):OfNat X n:=⟨.t n⟩
abbrev eK:Nat->Nat->nH->nH
  |0,_,t=>t
  |n+1,i,t=>.cons i none (eK n (i+1) t)
theorem aT{α:Type}:∀(l:List α)(i:Nat),cF l i=l[i]?
 | [],_=>by simp[cF]
 |_::_,0=>rfl
 |_::r,k+1=>by simpa[cF]using aT r k
theorem aY{α:Type}:∀(l:List α)(i:Nat)(x:α),aV l i x=l.set i x
 | [],_,_=>rfl
 |_::_,0,_=>rfl
 |a::r,k+1,x=>by simp[aV,aY r k x]
theorem cg{α:Type}:∀(a b:List α),gJ a b=a++b
 | [],_=>rfl
 |x::r,b=>by simp[gJ,cg r b]
theorem fY{α:Type}:∀(n:Nat)(x:α),gI n x=List.replicate n x
 |0,_=>rfl
 |n+1,x=>by simp[gI,fY n x,List.replicate_succ]
theorem fp{α:Type}{β:Sort _}:∀(l:List α)(k:List α->β),jr l k=k l
 | [],_=>rfl
 |x::r,k=>fp r λr'=>k (x::r')
theorem WA{β:Sort _}(v:CV)(k:CV->β):fV v k=k v:=by
 cases v with
 |rv r=>
  cases r with
  |one c=>rfl
  |agg cs=>exact fp cs _
 |_=>rfl
theorem mc:∀(e:List CV)(i:Nat),kP e i=(e[i]?).getD .aA
 | [],_=>by simp[kP]
 |_::_,0=>rfl
 |_::r,k+1=>by simpa[kP]using mc r k
theorem aU{α:Type}{o:Option α}{K:α->Prop}:ok o K↔∃x,o=some x/\K x:=by
 cases o<;>simp[ok]
theorem cn{t:Bool}{A B:Prop}:bB t A B↔(t=true/\A)\/(t=false/\B):=by
 cases t<;>simp[bB]
theorem CR{β:Sort _}(m0:Mem):∀(m:Mem)(c n:Nat)(k:Nat->β),m0.length=c+m.length->wz m0 m (List.range' c n) k=k m0.length
 | [],c,0,k,_=>by simp[wz]
 | [],c,n+1,k,h=>by simp[wz,adE,h]
 |_::r,c,0,k,h=>by simp[wz]
 |_::r,c,n+1,k,h=>by
  rw[adE,wz];exact CR m0 r (c+1) n k (by simp at h;omega)
theorem gP{β:Sort _}(m:Mem)(k:Nat->β):nJ m k=k m.length:=by have:=CR m m 0 64 k aE;exact this
theorem lm:∀{cs:List CC}{j n:Nat}{l:List CC},iU cs j n=some l->l.length=n/\∀i,i<n->cs[j+i]? =l[i]?
 |cs,0,0,l,h=>by cases cs<;>simp[iU]at h<;>subst h<;>simp
 | [],0,n+1,l,h=>by simp[iU]at h
 | [],j+1,n,l,h=>by cases n<;>simp[iU]at h
 |c::cs,0,n+1,l,h=>by
  simp only[iU]at h;cases hr:iU cs 0 n with
  |none=>simp[hr]at h
  |some l'=>
   simp[hr]at h;subst h;obtain⟨h1,h2⟩:=lm hr;refine⟨by simp[h1],λi hi=>?_⟩
   cases i with
   |zero=>simp
   |succ i=>have:=h2 i (by omega);simpa using this
 |c::cs,j+1,n,l,h=>by
  have h':iU cs j n=some l:=by cases n<;>simpa[iU]using h
  obtain⟨h1,h2⟩:=lm h';refine⟨h1,λi hi=>?_⟩
  have:=h2 i hi;rw[show j+1+i=(j+i)+1 by omega]
  simpa using this
theorem jX:∀{cs:List CC}{j:Nat}{xs l:List CC},fX cs j xs=some l->
  l.length=cs.length/\j+xs.length<=cs.length/\∀i,l[i]? =if j<=i/\i<j+xs.length then xs[i-j]? else cs[i]?
 |cs,0,[],l,h=>by
  cases cs<;>simp[fX]at h<;>subst h
  .simp
  .refine⟨rfl,aE,λi=>?_⟩
   rw[if_neg aE]
 | [],0,x::xs,l,h=>by simp[fX]at h
 | [],j+1,xs,l,h=>by cases xs<;>simp[fX]at h
 |c::cs,0,x::xs,l,h=>by
  simp only[fX]at h;cases hr:fX cs 0 xs with
  |none=>simp[hr]at h
  |some l'=>
   simp[hr]at h;subst h;obtain⟨h1,h2,h3⟩:=jX hr;refine⟨by simp[h1],by simp at h2|-;omega,λi=>?_⟩
   cases i with
   |zero=>simp
   |succ i=>
    have:=h3 i;simp only[aaj,true_and,aaP,acQ,aau,abK]at this|-;rw[this];simp
 |c::cs,j+1,xs,l,h=>by
  have h':(fX cs j xs).map (c:: ·)=some l:=by
   rw[<-h];cases hr:fX cs j xs<;>cases xs<;>simp[fX,hr]
  cases hr:fX cs j xs with
  |none=>simp[hr]at h'
  |some l'=>
   simp[hr]at h';subst h';obtain⟨h1,h2,h3⟩:=jX hr;refine⟨by simp[h1],by simp;omega,λi=>?_⟩
   cases i with
   |zero=>rw[if_neg om];simp
   |succ i=>
    have:=h3 i;simp only[abK,this];by_cases hc:j<=i/\i<j+xs.length
    .rw[if_pos hc,if_pos om,show i+1-(j+1)=i-j by omega]
    .rw[if_neg hc,if_neg om]
theorem wK:∀{ds:List Dt}{n:Nat}{l:List CC},wx ds n=some l->l.length=n/\∀i,i<n->∃d,ds[i]? =some d/\l[i]? =some (.ah d)
 |ds,0,l,h=>by cases ds<;>simp[wx]at h<;>subst h<;>simp
 | [],n+1,l,h=>by simp[wx]at h
 |d::ds,n+1,l,h=>by
  simp only[wx]at h;cases hr:wx ds n with
  |none=>simp[hr]at h
  |some l'=>
   simp[hr]at h;subst h;obtain⟨h1,h2⟩:=wK hr;refine⟨by simp[h1],λi hi=>?_⟩
   cases i with
   |zero=>exact⟨d,aE,aE⟩
   |succ i=>simpa using h2 i om
theorem wN:∀{l:List CC},js l=true->∀c,c∈l->∀esz e,c≠.ei esz e
 | [],_,c,hc,_,_=>by simp at hc
 |x::r,h,c,hc,esz,e=>by
  cases x with
  |ei a b=>simp[js]at h
  |_=>
   rcases aaJ.1 hc with rfl|hc
   .simp
   .exact wN (l:=r) (by simpa[js]using h) c hc esz e
def Bk.yS:Bk->Prop
 | .row _ elems=>∀(i:Nat)cs(j:Nat)c,elems[i]? =some cs->cs[j]? =some c->∀esz e,c≠.ei esz e
 | .mo _ es _=>∀e,e∈es->∀l,e.val≠.ei l
 |_=>True
theorem bj.AS{ρ:bI}{w:World}{c:CC}{v:Value}(h:bj ρ w .none c v)(esz:Nat)(e:List (List Dt)):c≠.ei esz e:=by rintro rfl;obtain⟨_,_,_,e,_⟩:=h;cases e
theorem bj.wO{ρ:bI}{w:World}{c:CC}{v:Value}(h:bj ρ w .none c v)(pos:Option (Nat×Nat×Nat)):bj ρ w pos c v:=by
 cases c<;>first|exact h|(obtain⟨_,_,_,e,_⟩:=h;cases e)
theorem bj.WB{ρ:bI}{w:World}{pos:Option (Nat×Nat×Nat)}{c:CC}{v:Value}(hn:∀esz e,c≠.ei esz e)(h:bj ρ w pos c v):bj ρ w .none c v:=by
 cases c<;>first|exact h|exact absurd rfl (hn _ _)
def bI.push(ρ:bI)(l:wu):bI:=
 {n:=ρ.n+1,aI:=λk=>if k.id=ρ.n then l else ρ.aI k,S:=ρ.S}
theorem bI.eU(ρ:bI)(l:wu){k:gw}(h:k.id<ρ.n):(ρ.push l).aI k=ρ.aI k:=by simp only[bI.push];rw[if_neg om]
theorem bI.gi(ρ:bI)(l:wu):(ρ.push l).aI (.aj ρ.n)=l:=by simp[bI.push,gw.id]
structure eN(w w':World):Prop where
 heap:∀b,b<w.heap.size->w'.heap[b]? =w.heap[b]?
 size:w.heap.size<=w'.heap.size
 os:w'.os=w.os
 tape:w'.tape=w.tape
 output:w'.output=w.output
theorem eN.alloc(w:World)(o:Obj):eN w (w.alloc o):=⟨λb h=>heap_alloc_old w o b h,aE,rfl,rfl,rfl⟩
theorem eN.drew(w:World):eN w w.drew:=⟨λ_ _=>rfl,Ym _,rfl,rfl,rfl⟩
theorem eN.trans{a b c:World}(h:eN a b)(k:eN b c):eN a c:=
 ⟨λx hx=>(k.heap x (aaI hx h.size)).trans (h.heap x hx),abD h.size k.size,k.os.trans h.os,k.tape.trans h.tape,k.output.trans h.output⟩
theorem cJ.cm{ρ U':bI}{w w':World}{id:Nat}{bk:Bk}(g:iL ρ w U' w')(hid:id<ρ.n)(hb:bk≠.aS->((∃esz elems,bk= .row esz elems)->0<(ρ.aI (.aj id)).cap)->w'.heap[(ρ.aI (.aj id)).b]? =w.heap[(ρ.aI (.aj id)).b]?)(h:cJ ρ w id bk):cJ U' w' id bk:=by
 have hl:U'.aI (.aj id)=ρ.aI (.aj id):=g.aI (.aj id) hid;cases bk with
 |aS=>trivial
 |var cs=>
  obtain⟨cur,hc,hd⟩:=h;refine⟨cur,by rw[hl];exact hc.dC (hb aE (by rintro⟨_,_,e⟩;cases e)),λj c hj=>?_⟩
  obtain⟨u,hu,cy⟩:=hd j c hj;exact⟨u,by rw[hl];exact hu,cy.cm g aE⟩
 |row esz elems=>
  obtain⟨h2,h3,h4,h5,bX⟩:=h;refine⟨by rw[hl];exact h2,by rw[hl];exact h3,by rw[hl];exact h4,h5,λcI=>?_⟩
  rw[hl]at cI;obtain⟨cur,hc,h1,h6⟩:=bX cI;refine⟨cur,by rw[hl];exact hc.dC (hb aE λ_=>cI),by rw[hl];exact h1,λi cs j c hi hj=>?_⟩
  obtain⟨u,hu,cy⟩:=h6 i cs j c hi hj;exact⟨u,by rw[hl];exact hu,cy.cm g (by rintro kK i' j' e;cases e;exact hid)⟩
 |mp es=>
  obtain⟨bq,clock,hc,h1,h2⟩:=h;refine⟨bq,clock,⟨by rw[hl,hb aE (by rintro⟨_,_,e⟩;cases e)];exact hc.1,hc.2⟩,h1,λi e hi=>?_⟩
  obtain⟨e',mT,hk,hd⟩:=h2 i e hi;exact⟨e',mT,hk,hd.cm g⟩
 |it cur left=>
  obtain⟨mb,seen,ck,bq,h2,h3,h4,h5,h6⟩:=h;exact⟨mb,seen,ck,bq,by rw[hl,hb aE (by rintro⟨_,_,e⟩;cases e)];exact h2,by rw[hl];exact h3,g.S _ h4,by rw[g.heap mb h4];exact h5,h6⟩
 |mo esz es so=>
  obtain⟨bq,clock,hc,⟨h1,h2⟩,h3⟩:=h;refine⟨bq,clock,⟨by rw[hl,hb aE (by rintro⟨_,_,e⟩;cases e)];exact hc.1,hc.2⟩,⟨h1,λi e hi=>?_⟩,h3⟩
  obtain⟨e',mT,hk,hp,hd⟩:=h2 i e hi;exact⟨e',mT,hk,hp,hd.cm g (λa b c hh=>by cases hh;exact hid)⟩
 |iw mid ip seen=>
  obtain⟨h1,h2,s,h3,h4⟩:=h;exact⟨aaI h1 g.n,by rw[hl];exact h2,s,by rw[hl,hb aE (by rintro⟨_,_,e⟩;cases e),g.aI (.aj mid) h1];exact h3,h4⟩
theorem qQ.cm{ρ U':bI}{w w':World}(g:iL ρ w U' w'){l:wu}{esz:Nat}{elems:List (List Dt)}(hb:w'.heap[l.b]? =w.heap[l.b]?)(h:qQ ρ w l esz elems):qQ U' w' l esz elems:=by
 obtain⟨cur,hc,h1,h2,h3⟩:=h;refine⟨cur,hc.dC hb,h1,h2,λi cs j d hi hj=>?_⟩
 obtain⟨u,hu,hd⟩:=h3 i cs j d hi hj;exact⟨u,hu,hd.mono g.S g.heap⟩
theorem ay.eT{ρ:bI}{m:Mem}{w:World}(hM:ay ρ m w){id:Nat}{bk:Bk}(h:m[id]? =some bk):id<ρ.n:=by rw[hM.n];exact(Km.1 h).1
theorem ay.Sz{ρ:bI}{m:Mem}{w w':World}{bk:Bk}{l:wu}(hM:ay ρ m w)(hw:eN w w')(HH:Live (ρ.push l) (m++ [bk]) (.aj ρ.n)->w.heap.size<=l.b/\l.b<w'.heap.size)(db:cJ (ρ.push l) w' m.length bk)(hf:bk.yS):ay (ρ.push l) (m++ [bk]) w'/\Ext ρ m w (ρ.push l) (m++ [bk]) w':=by
 have hn:=hM.n;have g:iL ρ w (ρ.push l) w':=⟨by simp[bI.push],λk hk=>ρ.eU l hk,λb hb=>hb,λb hb=>hw.heap b (hM.S b hb)⟩
 have get:∀{id:Nat}{b:Bk},(m++ [bk])[id]? =some b->(id<ρ.n/\m[id]? =some b)\/(id=ρ.n/\b=bk):=by
  intro id b hb;rcases aaf id m.length with h|h
  .exact .inl ⟨om,by rwa [aac h]at hb⟩
  .rw[ZZ h]at hb;have:id-m.length=0:=by
    rcases abi (id-m.length)with h0|h0
    .exact h0
    .rw[aaE (by simp;omega)]at hb;cases hb
   rw[this]at hb;exact .inr ⟨om,by simpa using hb.symm⟩
 have ew:∀{id i j esz elems},dY (m++ [bk]) id i j esz elems->id<ρ.n/\dY m id i j esz elems:=by
  rintro id i j esz elems ⟨b,hb,ho⟩;rcases get hb with⟨aC,hb⟩|⟨_,rfl⟩
  .exact⟨aC,b,hb,ho⟩
  .cases ho with
   |row hi hj=>exact absurd rfl (hf _ _ _ _ hi hj _ _)
   |mo hi=>exact absurd rfl (hf _ (Tp hi) _)
 have dn:∀k,Live (ρ.push l) (m++ [bk]) k->(k.id<ρ.n/\Live ρ m k)\/k= .aj ρ.n:=by
  intro k hk;cases k with
  |aj id=>
   obtain⟨b,hb,dh,be⟩:=hk;rcases get hb with⟨aC,hb⟩|⟨rfl,_⟩
   .rw[ρ.eU l (k:= .aj id) aC]at be;exact .inl ⟨aC,b,hb,dh,be⟩
   .exact .inr rfl
  |sub id i j=>
   obtain⟨⟨esz,elems,ho⟩,be⟩:=hk;obtain⟨aC,ho⟩:=ew ho;rw[ρ.eU l (k:= .sub id i j) aC]at be;exact .inl ⟨aC,⟨esz,elems,ho⟩,be⟩
 have AT:(ρ.push l).aI (.aj ρ.n)=l:=ρ.gi l;refine⟨⟨by simp[bI.push,hn],λb hb=>aaI (hM.S b hb) hw.size,?_,?_,?_,?_⟩,⟨by simp[bI.push],λid hid=>ρ.eU l hid,λb hb=>hb,λb hb=>.inl hb,?_,?_,hw.size,hw.os,hw.tape,hw.output⟩⟩
 .intro k hk;rcases dn k hk with⟨aC,hk⟩|rfl
  .rw[ρ.eU l aC];exact⟨aaI (hM.aL k hk).1 hw.size,(hM.aL k hk).2⟩
  .rw[AT];exact⟨(HH hk).2,λhs=>by have:=hM.S _ hs;have:=(HH hk).1;omega⟩
 .intro k k' hk fZ he;rcases dn k hk with⟨aC,hk⟩|rfl<;>rcases dn k' fZ with⟨oP,fZ⟩|rfl
  .rw[ρ.eU l aC,ρ.eU l oP]at he;exact hM.inj k k' hk fZ he
  .rw[ρ.eU l aC,AT]at he;have:=(hM.aL k hk).1;have:=(HH fZ).1;omega
  .rw[ρ.eU l oP,AT]at he;have:=(hM.aL k' fZ).1;have:=(HH hk).1;omega
  .rfl
 .intro id b hb;rcases get hb with⟨aC,hb⟩|⟨rfl,rfl⟩
  .exact(hM.bk id b hb).cm g aC λdh be=>hw.heap _ (hM.aL (.aj id) ⟨b,hb,dh,be⟩).1
  .rw[hn];exact db
 .intro id i j esz elems ho be;obtain⟨aC,ho⟩:=ew ho;rw[ρ.eU l (k:= .sub id i j) aC]at be|-;exact(hM.ei id i j esz elems ho be).cm g (hw.heap _ (hM.aL (.sub id i j) ⟨⟨esz,elems,ho⟩,be⟩).1)
 .intro k hk;rcases dn k hk with⟨aC,hk⟩|rfl
  .exact .inr ⟨k,hk,(by rw[ρ.eU l aC])⟩
  .exact .inl (by rw[AT];exact(HH hk).1)
 .intro b hb _;exact hw.heap b hb
theorem ay.push{ρ:bI}{m:Mem}{w w':World}{bk:Bk}{l:wu}(hM:ay ρ m w)(hw:eN w w')(h1:w.heap.size<=l.b)(h2:l.b<w'.heap.size)(db:cJ (ρ.push l) w' m.length bk)(hf:bk.yS):ay (ρ.push l) (m++ [bk]) w'/\Ext ρ m w (ρ.push l) (m++ [bk]) w':=
 hM.Sz hw (λ_=>⟨h1,h2⟩) db hf
structure eV(w w':World)(g:Nat):Prop where
 heap:∀b,b≠g->w'.heap[b]? =w.heap[b]?
 size:w'.heap.size=w.heap.size
 os:w'.os=w.os
 tape:w'.tape=w.tape
 output:w'.output=w.output
theorem ay.Ly{ρ:bI}{m:Mem}{w w':World}{id:Nat}{bk zw:Bk}(hM:ay ρ m w)(hid:m[id]? =some bk)(bY:Live ρ m (.aj id))(hw:eV w w' (ρ.aI (.aj id)).b)(db:iL ρ w ρ w'->cJ ρ w' id zw)(kz:∀i j esz e,dY (m.set id zw) id i j esz e->dY m id i j esz e):ay ρ (m.set id zw) w'/\Ext ρ m w ρ (m.set id zw) w':=by
 have aC:id<m.length:=(Km.1 hid).1;have hS:=(hM.aL _ bY).2;have g:iL ρ w ρ w':=⟨Ym _,λ_ _=>rfl,λ_ h=>h,λb hb=>hw.heap b λe=>hS (e▸hb)⟩
 have get:∀{k:Nat}{b:Bk},(m.set id zw)[k]? =some b->(k≠id/\m[k]? =some b)\/(k=id/\b=zw):=by
  intro k b hb;by_cases hk:k=id
  .subst hk;rw[TH aC]at hb;exact .inr ⟨rfl,by simpa using hb.symm⟩
  .rw[U7 (Ne.symm hk)]at hb;exact .inl ⟨hk,hb⟩
 have ew:∀{k i j esz e},dY (m.set id zw) k i j esz e->dY m k i j esz e:=by
  intro k i j esz e ho;by_cases hk:k=id
  .subst hk;exact kz i j esz e ho
  .obtain⟨b,hb,ho⟩:=ho;rw[U7 (Ne.symm hk)]at hb;exact⟨b,hb,ho⟩
 have dn:∀k,Live ρ (m.set id zw) k->Live ρ m k:=by
  intro k hk;cases k with
  |aj k=>
   obtain⟨b,hb,hn,be⟩:=hk;rcases get hb with⟨_,hb⟩|⟨rfl,_⟩
   .exact⟨b,hb,hn,be⟩
   .exact bY
  |sub k i j=>
   obtain⟨⟨esz,e,ho⟩,be⟩:=hk;exact⟨⟨esz,e,ew ho⟩,be⟩
 refine⟨⟨by simp[hM.n],λb hb=>by rw[hw.size];exact hM.S b hb,λk hk=>by rw[hw.size];exact hM.aL k (dn k hk),λk k' hk fZ=>hM.inj k k' (dn k hk) (dn k' fZ),?_,?_⟩,
  ⟨Ym _,λ_ _=>rfl,λ_ h=>h,λ_ h=>.inl h,λk hk=>.inr ⟨k,dn k hk,rfl⟩,λb _ hk=>hw.heap b λe=>hk _ bY e.symm,by rw[hw.size];exact Ym _,hw.os,hw.tape,hw.output⟩⟩
 .intro k b hb;rcases get hb with⟨WC,hb⟩|⟨rfl,rfl⟩
  .refine(hM.bk k b hb).cm g (hM.eT hb) λhn be=>hw.heap _ λe=>?_
   have:=hM.inj (.aj k) (.aj id) ⟨b,hb,hn,be⟩ bY e;injection this with this
   exact WC this
  .exact db g
 .intro k i j esz e ho be;have fa:=ew ho;refine(hM.ei k i j esz e fa be).cm g (hw.heap _ λhe=>?_)
  have:=hM.inj (.sub k i j) (.aj id) ⟨⟨esz,e,fa⟩,be⟩ bY he;cases this
theorem bj.cut{ρ:bI}{w:World}{pos:Option (Nat×Nat×Nat)}{c:CC}{v:Value}{n:Nat}(h:bj ρ w pos c v)(hi:c.du n):bj {ρ with n:=n} w pos c v:=by
 cases c<;>simp only[bj,CC.du]at h hi|-
 case ptr=>exact⟨hi,h.2⟩
 case nI=>exact⟨hi,h.2⟩
 case row=>exact⟨hi,h.2⟩
 case map=>exact⟨hi,h.2⟩
 case fn=>exact⟨hi,h.2⟩
 all_goals exact h
theorem df.cut{ρ:bI}{w:World}{r:RV}{v:Value}{n:Nat}(h:df ρ w r v)(hi:r.du n):df {ρ with n:=n} w r v:=by
 cases r with
 |one c=>exact bj.cut h hi
 |agg cs=>
  obtain⟨vs,hv,hl,hc⟩:=h;exact⟨vs,hv,hl,λi c hj=>let⟨u,hu,hd⟩:=hc i c hj;⟨u,hu,hd.cut (hi c (Tp hj))⟩⟩
theorem ce.cut{ρ:bI}{w:World}{c:CV}{v:Value}{n:Nat}(h:ce ρ w c v)(hi:c.du n):ce {ρ with n:=n} w c v:=by
 cases c with
 |aA=>trivial
 |undef=>exact h
 |rv r=>exact df.cut h hi
 |bD rs=>
  obtain⟨vs,hv,hl,hc⟩:=h;exact⟨vs,hv,hl,λi c hj=>let⟨u,hu,hd⟩:=hc i c hj;⟨u,hu,hd.cut (hi c (Tp hj))⟩⟩
theorem cJ.cut{ρ:bI}{w:World}{id:Nat}{bk:Bk}{n:Nat}(h:cJ ρ w id bk)(hi:bk.du n):cJ {ρ with n:=n} w id bk:=by
 cases bk with
 |aS=>trivial
 |var cs=>
  obtain⟨cur,hc,hd⟩:=h;exact⟨cur,hc,λj c hj=>let⟨u,hu,cy⟩:=hd j c hj;⟨u,hu,cy.cut (hi c (Tp hj))⟩⟩
 |row esz elems=>
  obtain⟨h2,h3,h4,h5,bX⟩:=h;refine⟨h2,h3,h4,h5,λcI=>?_⟩
  obtain⟨cur,hc,h1,h6⟩:=bX cI;exact⟨cur,hc,h1,λi cs j c h7 h8=>let⟨u,hu,cy⟩:=h6 i cs j c h7 h8;⟨u,hu,cy.cut (hi cs (Tp h7) c (Tp h8))⟩⟩
 |mp es=>
  obtain⟨bq,clock,hc,h1,h2⟩:=h;exact⟨bq,clock,hc,h1,λi e h7=>let⟨e',mT,hk,hd⟩:=h2 i e h7;⟨e',mT,hk,hd.cut (hi e (Tp h7))⟩⟩
 |it cur left=>exact h
 |mo esz es so=>
  obtain⟨bq,clock,hc,⟨h1,h2⟩,h3⟩:=h;refine⟨bq,clock,hc,⟨h1,λi e h7=>?_⟩,h3⟩
  obtain⟨e',mT,hk,hp,hd⟩:=h2 i e h7;refine⟨e',mT,hk,hp,hd.cut ?_⟩;have:=hi e (Tp h7);obtain⟨k,v⟩:=e;cases v<;>exact this
 |iw mid ip seen=>exact⟨hi,h.2⟩
theorem mY.spec{m m':Mem}(h:mY m m'):m'.length<=m.length/\∀(i:Nat)b,m'[i]? =some b->∃b0,m[i]? =some b0/\(b=b0\/b= .aS):=by
 induction h with
 |nil m=>exact⟨aE,λi b hb=>by simp at hb⟩
 |cons h hm ih=>
  refine⟨by simp[ih.1],λi b hb=>?_⟩
  cases i with
  |zero=>simp at hb;subst hb;exact⟨_,aE,h⟩
  |succ i=>simpa using ih.2 i b (by simpa using hb)
theorem ay.Mf{ρ:bI}{m m':Mem}{w:World}(hM:ay ρ m w)(h:mY m m')(Mg:∀b,b∈m'->b.du m'.length):
  ay {ρ with n:=m'.length} m' w/\(∀k,Live {ρ with n:=m'.length} m' k->Live ρ m k):=by
 have hs:=h.spec.2;have ew:∀{k i j esz e},dY m' k i j esz e->dY m k i j esz e:=by
  rintro k i j esz e ⟨b,hb,ho⟩;obtain⟨b0,Jg,rfl|h0⟩:=hs k _ hb
  .exact⟨_,Jg,ho⟩
  .subst h0;cases ho
 have dn:∀k,Live {ρ with n:=m'.length} m' k->Live ρ m k:=by
  intro k hk;cases k with
  |aj k=>
   obtain⟨b,hb,hn,be⟩:=hk;obtain⟨b0,Jg,rfl|h0⟩:=hs k _ hb
   .exact⟨_,Jg,hn,be⟩
   .exact absurd h0 hn
  |sub k i j=>
   obtain⟨⟨esz,e,ho⟩,be⟩:=hk;exact⟨⟨esz,e,ew ho⟩,be⟩
 refine⟨⟨rfl,hM.S,λk hk=>hM.aL k (dn k hk),λk k' hk fZ=>hM.inj k k' (dn k hk) (dn k' fZ),λid b hb=>?_,λid i j esz e ho be=>hM.ei id i j esz e (ew ho) be⟩,dn⟩
 obtain⟨b0,Jg,rfl|h0⟩:=hs id b hb
 .exact(hM.bk id _ Jg).cut (Mg _ (Tp hb))
 .subst h0;trivial
structure bl(ρ:bI)(w:World)(aX:List CV)(tmps:Array Value):Prop where
 size:tmps.size=aX.length
 jS:∀(i:Nat)c,aX[i]? =some c->∃v,tmps[i]? =some v/\ce ρ w c v
section
variable {P:Program} {ρ:bI} {m:Mem} {w:World} {aX:List CV} {a:Act}
theorem bl.get(hE:bl ρ w aX a.tmps)(t:Nat):ce ρ w (kP aX t) (a.tmps.getD t Go.undef):=by
 rw[mc];cases h:aX[t]? with
 |none=>trivial
 |some c=>
  obtain⟨v,hv,hd⟩:=hE.jS t c h;simpa[abE,hv]using hd
theorem qX{v:Value}{c:CC}(h:wF v=some c):bj ρ w .none c v:=by
 unfold wF at h;split at h
 .simp at h;subst h;exact⟨none,rfl⟩
 .split at h
  .rename_i hp;simp at h;subst h;exact de.val _ hp
  .cases h
theorem aR(hE:bl ρ w aX a.tmps){x:Operand}{x':X}(h:bn x=some x'):ce ρ w (x'.ev aX) (a.eval x):=by
 cases x with
 |tmp t=>simp[bn]at h;subst h;exact hE.get t
 |const v=>
  simp only[bn,aaz]at h;obtain⟨c,hc,rfl⟩:=h;exact qX hc
 |func f=>simp[bn]at h;subst h;exact⟨aE,rfl⟩
 |global g=>simp[bn]at h
theorem fq{t:TypeId}{n:Nat}(h:eL P t=some n):(sizeOf t).run P w= .ok n w:=by simp only[eL,aaz]at h;obtain⟨i,hi,rfl⟩:=h;simp[sizeOf,typeInfo,hi]
theorem pQ{t:TypeId}{b:Bool}(h:ec P t=some b):(isAgg t).run P w= .ok b w:=by
 simp only[ec,aaz]at h;obtain⟨d,hd,rfl⟩:=h;simp only[isAgg,Sem.run_bind,run_underlying hd,Result.andThen_ok];cases d<;>rfl
theorem mF(b off j:Nat):(⟨b,off,none⟩:Addr).add j=⟨b,off+j,none⟩:=by
 unfold Addr.add;split<;>simp_all
def nL(ρ:bI)(w:World)(b off:Nat)(l:List CC):Prop:=
 ∀(i:Nat)c,l[i]? =some c->∃u,w.cell? ⟨b,off+i,none⟩=some u/\bj ρ w .none c u
theorem nL.WD:∀{l:List CC}{b off:Nat},nL ρ w b off l->
  ∃vs:List Value,vs.length=l.length/\(∀j v,vs[j]? =some v->w.cell? ((⟨b,off,none⟩:Addr).add j)=some v)/\(∀(i:Nat)c,l[i]? =some c->∃u,vs[i]? =some u/\bj ρ w .none c u)
 | [],b,off,h=>⟨[],rfl,aE,aE⟩
 |c::l,b,off,h=>by
  obtain⟨u,hu,hd⟩:=h 0 c aE;obtain⟨vs,h1,h2,h3⟩:=nL.WD (l:=l) (b:=b) (off:=off+1) (λi c hi=>by
   have:=h (i+1) c (by simpa using hi)
   rwa [show off+(i+1)=off+1+i by omega]at this)
  refine⟨u::vs,by simp[h1],λj v hj=>?_,λi c' hi=>?_⟩
  .rw[mF];cases j with
   |zero=>simp at hj;subst hj;simpa using hu
   |succ j=>
    have:=h2 j v (by simpa using hj)
    rw[mF]at this;rwa [show off+(j+1)=off+1+j by omega]
  .cases i with
   |zero=>simp at hi;subst hi;exact⟨u,aE,hd⟩
   |succ i=>simpa using h3 i c' (by simpa using hi)
theorem qY{t:TypeId}{agg:Bool}{n:Nat}{b off:Nat}{l:List CC}{cv:CV}(ha:ec P t=some agg)(hs:eL P t=some n)(hl:l.length=n)(hc:nL ρ w b off l)(hm:L7 agg l=some cv):∃v,(loadVar t ⟨b,off,none⟩).run P w= .ok v w/\ce ρ w cv v:=by
 obtain⟨vs,h1,h2,h3⟩:=hc.WD;unfold loadVar;simp only[Sem.run_bind,pQ ha,Result.andThen_ok];cases agg with
 |true=>
  simp[L7]at hm;subst hm;have hr:=run_loadCells_list (P:=P) w ⟨b,off,none⟩ vs h2;refine⟨.agg vs.toArray,?_,vs,rfl,h1,h3⟩;simp only[if_true,Sem.run_bind,fq hs,Result.andThen_ok,<-hl,<-h1,hr,Sem.run_pure]
 |false=>
  match l,hm with
  | [c],hm=>
   simp[L7]at hm;subst hm;obtain⟨u,hu,hd⟩:=h3 0 c aE;have:=h2 0 u hu;rw[mF]at this;refine⟨u,?_,hd⟩;simp only[abL,if_false,run_load];rw[show(⟨b,off,none⟩:Addr)=⟨b,off+0,none⟩ by simp,this]
theorem uT(hM:ay ρ m w){t:TypeId}{agg:Bool}{n:Nat}(ha:ec P t=some agg)(hs:eL P t=some n){av:CV}{v:Value}{K:CV->Prop}(h:wB aX m agg n av K)(hd:ce ρ w av v):∃ad u cv,v= .pointer (some ad)/\(loadVar t ad).run P w= .ok u w/\K cv/\ce ρ w cv u:=by
 unfold wB at h;split at h
 .rename_i id j;obtain⟨aC,rfl⟩:=hd;obtain⟨bk,hb,h⟩:=aU.1 h;rw[aT]at hb;cases bk<;>simp only at h
  rename_i cs;obtain⟨l,hr,h⟩:=aU.1 h;obtain⟨cv,hm,hK⟩:=aU.1 h;obtain⟨hl,kD⟩:=lm hr;obtain⟨cur,bX,cq⟩:=hM.bk id _ hb;have hc:nL ρ w (ρ.aI (.aj id)).b ((ρ.aI (.aj id)).aq+j) l:=by
   intro i c hi;have ir:i<n:=by rw[<-hl];exact(Km.1 hi).1
   obtain⟨u,hu,cy⟩:=cq (j+i) c ((kD i ir).trans hi);exact⟨u,by rw[bX.cell,<-hu,abg],cy⟩
  obtain⟨u,cP,cy⟩:=qY ha hs hl hc hm;exact⟨_,u,cv,rfl,cP,hK,cy⟩
 .rename_i id esz i j;obtain⟨aC,rfl⟩:=hd;obtain⟨bk,hb,h⟩:=aU.1 h;rw[aT]at hb;cases bk<;>simp only at h
  rename_i oK elems;rcases cn.1 h with⟨he,g1⟩|⟨_,g1⟩
  case inr=>exact g1.elim
  have he:esz=oK:=aai he;subst he;obtain⟨cells,dL,g2⟩:=aU.1 g1;rw[aT]at dL;obtain⟨l,hr,g3⟩:=aU.1 g2;rcases cn.1 g3 with⟨kF,g4⟩|⟨_,g4⟩
  case inr=>exact g4.elim
  obtain⟨cv,hm,hK⟩:=aU.1 g4;obtain⟨hl,kD⟩:=lm hr;obtain⟨h2,h3,h4,h5,Cz⟩:=hM.bk id _ hb;have we:=(Km.1 dL).1;obtain⟨cur,bX,h1,cq⟩:=Cz om;have hc:nL ρ w (ρ.aI (.aj id)).b ((ρ.aI (.aj id)).aq+i*esz+j) l:=by
   intro k c hi;have ir:k<n:=by rw[<-hl];exact(Km.1 hi).1
   obtain⟨u,hu,cy⟩:=cq i cells (j+k) c dL ((kD k ir).trans hi);exact⟨u,by rw[bX.cell,<-hu,abg _ j k],cy.WB (wN kF c (Tp hi))⟩
  obtain⟨u,cP,cy⟩:=qY ha hs hl hc hm;exact⟨_,u,cv,rfl,cP,hK,cy⟩
 .rename_i ds;obtain⟨b,off,rfl,hS,cq⟩:=hd;obtain⟨l,hr,h⟩:=aU.1 h;obtain⟨cv,hm,hK⟩:=aU.1 h;obtain⟨hl,kD⟩:=wK hr;have hc:nL ρ w b off l:=by
   intro i c hi;have ir:i<n:=by rw[<-hl];exact(Km.1 hi).1
   obtain⟨d,vG,yJ⟩:=kD i ir;rw[hi]at yJ;simp at yJ;subst yJ;exact cq i d vG
  obtain⟨u,cP,cy⟩:=qY ha hs hl hc hm;exact⟨_,u,cv,rfl,cP,hK,cy⟩
 .exact h.elim
def dd(P:Program)(s:Sem Next)(ρ:bI)(m:Mem)(w:World)(K:CV->Mem->Prop):Prop:=
 ∃nx v w' cv m' U',s.run P w= .ok nx w'/\(nx= .value v\/(nx= .skip/\v=Go.undef))/\K cv m'/\ay U' m' w'/\ce U' w' cv v/\Ext ρ m w U' m' w'
theorem dd.pure{s:Sem Next}{v:Value}{cv:CV}{K:CV->Mem->Prop}(hM:ay ρ m w)(hr:s.run P w= .ok (.value v) w)(hK:K cv m)(hd:ce ρ w cv v):dd P s ρ m w K:=
 ⟨_,v,w,cv,m,ρ,hr,.inl rfl,hK,hM,hd,Ext.refl _ _ _⟩
theorem bF{v x:Value}(h:ce ρ w (.rv (.one (.ah (.val x)))) v)(hx:x≠.slice none 0 0:=by first|(intro hh;cases hh;done)|assumption|simp):v=x/\cw x=true:=by
 cases h with
 |val v h=>exact⟨rfl,h⟩
 |no a=>exact absurd rfl hx
theorem cA{v:Value}(h:cw v=true):ce ρ w (.rv (.one (.ah (.val v)))) v:=de.val v h
theorem Qc{t:TypeId}(ht:P.underlying t=some .bool)(neg:Bool)(a b:Bool):
  (binOp (if neg then .neq else .eql) t (.bool a) (.bool b)).run P w= .ok (.bool (match neg with|true=>!(a==b)|false=>a==b)) w:=by
 have h:∀d,(Op.equalIn (d+1) t (.bool a) (.bool b)).run P w= .ok (a==b) w:=λd=>by rw[Op.equalIn];simp[run_underlying ht]
 have h2:(Op.equal t (.bool a) (.bool b)).run P w= .ok (a==b) w:=h 9999;cases neg<;>simp[binOp,h2]
theorem Fa{op:BinOp}{x y v:Value}(h:Jc op x y=some v){t:TypeId}:(binOp op t x y).run P w= .ok v w/\cw v=true:=by
 cases x<;>cases y<;>simp only[Jc]at h<;>try(cases h;done)
 case int.int k a k' b=>
  by_cases hk:k=k'
  .subst hk;cases op<;>simp only[decide_true]at h
   case shl=>
    by_cases hb:b<0
    .simp[hb]at h
    .simp[hb]at h;subst h;simp[binOp,Op.shift,hb,cw]
   case shr=>
    by_cases hb:b<0
    .simp[hb]at h
    .simp[hb]at h;subst h;simp[binOp,Op.shift,hb,cw]
   case quo=>
    by_cases hb:b=0
    .simp[hb]at h
    .simp[hb]at h;subst h;simp[binOp,Op.intDiv,hb,cw]
   case rem=>
    by_cases hb:b=0
    .simp[hb]at h
    .simp[hb]at h;subst h;simp[binOp,Op.intDiv,hb,cw]
   all_goals first
    |(cases h;done)
    |(simp only[aav]at h;subst h;simp[binOp,Op.intArith,Op.intBits,Op.intCmp,cw])
  .cases op<;>simp only[hk,decide_false]at h
   case shl=>
    by_cases hb:b<0
    .simp[hb]at h
    .simp[hb]at h;subst h;simp[binOp,Op.shift,hb,cw]
   case shr=>
    by_cases hb:b<0
    .simp[hb]at h
    .simp[hb]at h;subst h;simp[binOp,Op.shift,hb,cw]
   all_goals(cases h;done)
 case string.string a b=>
  cases op<;>simp only at h<;>try(cases h;done)
  case add=>
   by_cases hb:((a.size+b.size:Nat):Int)>IntKind.i64.max
   .rw[decide_eq_true hb]at h;cases h
   .rw[decide_eq_false hb]at h;simp only[aav]at h;subst h;refine⟨?_,rfl⟩;simp only[binOp,Op.stringOp];rw[if_neg hb];rfl
  all_goals(simp only[aav]at h;subst h;simp[binOp,Op.stringOp,cw])
theorem Jh{op:UnOp}{x v:Value}(h:Zs op x=some v):(Op.unary op x).run P w= .ok v w/\cw v=true:=by
 cases x<;>simp only[Zs]at h<;>try(cases h;done)
 all_goals cases op<;>simp only at h<;>try(cases h;done)
 all_goals(simp only[aav]at h;subst h;simp[Op.unary,Op.intArith,cw])
theorem uU{op:BinOp}{t:TypeId}{x y:Operand}{a b:Value}(ha:cw a=true)(hn:a≠.nilIface):(eqGuard op t x y a b).run P w= .ok () w:=by
 unfold eqGuard;cases op<;>simp
 all_goals(cases a<;>simp_all[cw])
end
section
variable {P:Program} {ρ:bI} {m:Mem} {w:World} {aX:List CV} {a:Act} {K:CV->Mem->Prop}
theorem jY{cv:CV}{v:Value}{cs:List CC}(h:cellsOf cv=some cs)(hd:ce ρ w cv v):
  v.cells.size=cs.length/\(∀(i:Nat)c,cs[i]? =some c->∃u,v.cells[i]? =some u/\bj ρ w .none c u)/\(∀u∈v.cells.toList,u.oneCell'=true):=by
 unfold cellsOf at h;split at h
 .rename_i c;simp at h;subst h;have h1:v.oneCell'=true:=bj.one hd;have hc:v.cells= #[v]:=by cases v<;>first|rfl|simp[Value.oneCell']at h1
  refine⟨by simp[hc],λi c' hi=>?_,by rw[hc];simpa using h1⟩
  cases i with
  |zero=>simp at hi;subst hi;exact⟨v,by simp[hc],hd⟩
  |succ i=>simp at hi
 .rename_i fj;simp at h;subst h;obtain⟨vs,rfl,hl,hc⟩:=hd;refine⟨by simp[Value.cells,hl],λi c hi=>?_,λu hu=>?_⟩
  .obtain⟨u,hu,cy⟩:=hc i c hi;exact⟨u,by simpa[Value.cells]using hu,cy⟩
  .simp only[Value.cells]at hu;obtain⟨i,hi,rfl⟩:=adr hu;have eO:i<vs.length:=by simpa using hi
   obtain⟨u,WE,cy⟩:=hc i (fj[i]'(by omega)) (vU om)
   rw[vU eO]at WE;simp at WE;simpa[WE]using cy.one
 .cases h
theorem ft:∀{vs:List Value}{cs:List CC},mV vs=some cs->vs.length=cs.length/\∀(i:Nat)c,cs[i]? =some c->∃u,vs[i]? =some u/\bj ρ w .none c u
 | [],cs,h=>by simp[mV]at h;subst h;simp
 |v::r,cs,h=>by
  simp only[mV,U6,N7]at h;obtain⟨c,hc,l,hl,h⟩:=h;simp at h;subst h;obtain⟨h1,h2⟩:=ft hl;refine⟨by simp[h1],λi c' hi=>?_⟩
  cases i with
  |zero=>simp at hi;subst hi;exact⟨v,aE,qX hc⟩
  |succ i=>simpa using h2 i c' (by simpa using hi)
theorem CS(hM:ay ρ m w){cs:List CC}{cells:Array Value}{ty:TypeId}{w':World}(hw:w'=w.alloc (.cells cells ty)\/w'=w.drew.alloc (.cells cells ty))(hd:∀(i:Nat)c,cs[i]? =some c->∃u,cells[i]? =some u/\bj ρ w .none c u):
  ∃U',ay U' (m++ [.var cs]) w'/\Ext ρ m w U' (m++ [.var cs]) w'/\ce U' w' (.rv (.one (.ptr m.length 0))) (.pointer (some ⟨w.heap.size,0,none⟩)):=by
 have SA:eN w w':=by
  rcases hw with rfl|rfl
  .exact eN.alloc w _
  .exact(eN.drew w).trans (eN.alloc w.drew _)
 have bX:mE True w' w.heap.size cells:=by
  rcases hw with rfl|rfl
  .exact mE.new w cells ty
  .exact mE.new w.drew cells ty
 have dk:w.heap.size<w'.heap.size:=bX.lt;let l:wu:=⟨w.heap.size,0,0,0⟩;have hn:=hM.n;have bO:(ρ.push l).aI (.aj m.length)=l:=by rw[<-hn];exact ρ.gi l
 have g:iL ρ w (ρ.push l) w':=⟨by simp[bI.push],λk hk=>ρ.eU l hk,λb hb=>hb,λb hb=>SA.heap b (hM.S b hb)⟩
 have hb:cJ (ρ.push l) w' m.length (.var cs):=by
  refine⟨cells,by rw[bO];exact bX,λj c hj=>?_⟩
  obtain⟨u,hu,cy⟩:=hd j c hj;exact⟨u,by rw[bO];simpa[l]using hu,cy.cm g aE⟩
 obtain⟨h1,h2⟩:=hM.push (l:=l) SA (Ym _) dk hb trivial;refine⟨_,h1,h2,by simp[bI.push,hn],?_⟩
 rw[bO]
theorem Mh(hM:ay ρ m w){esz cap:Nat}{elems:List (List CC)}{cells:Array Value}{ty:TypeId}{w':World}(hw:w'=w.alloc (.cells cells ty)\/w'=w.drew.alloc (.cells cells ty))(dk:cap*esz<=cells.size)(hlen:elems.length<=cap)(be:cap<=maxLen)(oh:∀cs,cs∈elems->cs.length=esz)(hd:∀(i:Nat)cs(j:Nat)c,elems[i]? =some cs->cs[j]? =some c->∃u,cells[i*esz+j]? =some u/\bj ρ w .none c u):
  ∃U',ay U' (m++ [.row esz elems]) w'/\Ext ρ m w U' (m++ [.row esz elems]) w'/\
   ce U' w' (.rv (.one (.row m.length esz 0 none))) (.slice (some ⟨w.heap.size,0,none⟩) elems.length cap):=by
 have SA:eN w w':=by
  rcases hw with rfl|rfl
  .exact eN.alloc w _
  .exact(eN.drew w).trans (eN.alloc w.drew _)
 have bX:mE (esz=1) w' w.heap.size cells:=by
  rcases hw with rfl|rfl
  .exact mE.new w cells ty
  .exact mE.new w.drew cells ty
 have aC:w.heap.size<w'.heap.size:=bX.lt;let l:wu:=⟨w.heap.size,0,elems.length,cap⟩;have hn:=hM.n;have bO:(ρ.push l).aI (.aj m.length)=l:=by rw[<-hn];exact ρ.gi l
 have g:iL ρ w (ρ.push l) w':=⟨by simp[bI.push],λk hk=>ρ.eU l hk,λb hb=>hb,λb hb=>SA.heap b (hM.S b hb)⟩
 have hb:cJ (ρ.push l) w' m.length (.row esz elems):=by
  refine⟨by rw[bO],by rw[bO];exact hlen,by rw[bO];exact be,oh,λ_=>⟨cells,by rw[bO];exact bX,by rw[bO];simpa[l]using dk,λi cs j c hi hj=>?_⟩⟩
  obtain⟨u,hu,cy⟩:=hd i cs j c hi hj;exact⟨u,by rw[bO];simpa[l]using hu,(cy.cm g aE).wO _⟩
 obtain⟨h1,h2⟩:=hM.push (l:=l) SA (Ym _) aC hb (λi cs j c hi hj=>by obtain⟨u,hu,cy⟩:=hd i cs j c hi hj;exact cy.AS)
 refine⟨_,h1,h2,by simp[bI.push,hn],?_⟩
 rw[bO];refine⟨aE,aE,hlen,be,_,rfl,λ_=>?_⟩
 simp[l]
theorem CT(hM:ay ρ m w){t:TypeId}{z:List CC}(hz:ek P t=some z)(h:step P (.alloc z) aX m K):
  dd P (do pure (Next.value (<-Instr.alloc t true (.tuple #[])))) ρ m w K:=by
 simp only[ek,U6,N7]at hz;obtain⟨i,hi,v,hv,hc⟩:=hz;obtain⟨hl,hd⟩:=ft (ρ:=ρ) (w:=w) hc;obtain⟨U',h1,h2,h3⟩:=CS hM (ty:=t) (cells:=v.cells) (.inl rfl) (λi c hi=>by
  obtain⟨u,hu,cy⟩:=hd i c hi;exact⟨u,by simpa using hu,cy⟩)
 simp only[step,gP,cg]at h;refine⟨_,_,_,_,_,U',?_,.inl rfl,h,h1,h3,h2⟩;simp[Instr.alloc,zeroValue,typeInfo,hi,hv,newVar,newRow]
theorem Ji(hM:ay ρ m w)(hE:bl ρ w aX a.tmps){t:TypeId}{x:Operand}{x':X}(hx:bn x=some x')(h:step P (.box x') aX m K):
  dd P (do pure (Next.value (<-Instr.box t (a.eval x)))) ρ m w K:=by
 simp only[step]at h;obtain⟨cs,fe,h⟩:=aU.1 h;obtain⟨hl,hd,_⟩:=jY fe (aR hE hx);obtain⟨U',h1,h2,h3⟩:=CS hM (ty:=t) (cells:=(a.eval x).cells) (.inl rfl) hd;simp only[gP,cg]at h;refine⟨_,_,_,_,_,U',?_,.inl rfl,h,h1,h3,h2⟩;simp[Instr.box,newVar,newRow]
theorem tH(off:Nat):∀(vs:List Value)(k:Nat)(cells:Array Value),
  let r:=(vs.zipIdx k).foldl (λ(cs:Array Value)(p:Value×Nat)=>cs.setIfInBounds (off+p.2) p.1) cells
  r.size=cells.size/\(off+k+vs.length<=cells.size->∀i,r[i]? =if off+k<=i/\i<off+k+vs.length then vs[i-(off+k)]? else cells[i]?)
 | [],k,cells=>by simp;intro _ i h1 h2;omega
 |v::r,k,cells=>by
  simp only[List.zipIdx_cons,List.foldl_cons];obtain⟨h1,h2⟩:=tH off r (k+1) (cells.setIfInBounds (off+k) v);refine⟨by rw[h1];simp,λhle i=>?_⟩
  simp only[aau]at hle;rw[h2 (by simp;omega) i]
  by_cases hc:off+(k+1)<=i/\i<off+(k+1)+r.length
  .rw[if_pos hc,if_pos (by simp;omega)]
   rw[show i-(off+k)=(i-(off+(k+1)))+1 by omega]
   simp
  .rw[if_neg hc];by_cases he:i=off+k
   .subst he;rw[if_pos aE];simp only[ac3,ab9];rw[ab7];simp;omega
   .rw[if_neg (by simp;omega),ab7,if_neg om]
def Cells(ρ:bI)(w:World)(cs:List CC)(cells:Array Value):Prop:=
 cells.size=cs.length/\∀(i:Nat)c,cs[i]? =some c->∃u,cells[i]? =some u/\bj ρ w .none c u
theorem CU{place:Nat->Option (Nat×Nat)}{i off sz:Nat}{v:Value}{rest:List (Nat×Value)}{z z' cs:List CC}{cells:Array Value}(hp:place i=some (off,sz))(hz:Cells ρ w z cells)(hv:v.cells.size=sz)(iB:cs.length=sz)(hd:∀(i:Nat)c,cs[i]? =some c->∃u,v.cells[i]? =some u/\bj ρ w .none c u)(hw:fX z off cs=some z'):∃fz,Instr.fill place cells ((i,v)::rest)=Instr.fill place fz rest/\Cells ρ w z' fz:=by
 obtain⟨h1,h2,h3⟩:=jX hw;refine⟨(v.cells.zipIdx.foldl (λcs(p:Value×Nat)=>cs.setIfInBounds (off+p.2) p.1) cells),?_,?_⟩
 .rw[Instr.fill,hp];simp only;rw[if_neg (by rw[hz.1];simp;omega)]
 .have hf:=tH off v.cells.toList 0 cells;simp only[ac6]at hf;have he:v.cells.zipIdx.foldl (λcs(p:Value×Nat)=>cs.setIfInBounds (off+p.2) p.1) cells=(v.cells.toList.zipIdx 0).foldl (λ(cs:Array Value)(p:Value×Nat)=>cs.setIfInBounds (off+p.2) p.1) cells:=by rw[<-Array.foldl_toList];simp
  rw[he];refine⟨by rw[hf.1,hz.1,h1],λk c hk=>?_⟩
  rw[hf.2 (by rw[hz.1];simp;omega) k]
  rw[h3 k]at hk;have hlen:v.cells.toList.length=cs.length:=by simp[hv,iB]
  rw[hlen];by_cases hc:off<=k/\k<off+cs.length
  .rw[if_pos hc]at hk|-;obtain⟨u,hu,cy⟩:=hd _ c hk;exact⟨u,by simpa using hu,cy⟩
  .rw[if_neg hc]at hk|-;exact hz.2 k c hk
theorem uV(hE:bl ρ w aX a.tmps){fs:Array Field}{place:Nat->Option (Nat×Nat)}(jZ:∀i f,fs[i]? =some f->∀n,eL P f.type=some n->place i=some (f.offset,n)):
  ∀{ps:List (Nat×Operand)}{oH:List (Nat×Nat×X)}{z z':List CC}{cells:Array Value},mW P fs ps=some oH->oJ aX z oH=some z'->Cells ρ w z cells->
   ∃fz,Instr.fill place cells (ps.map λp=>(p.1,a.eval p.2))=some fz/\Cells ρ w z' fz
 | [],oH,z,z',cells,hp,hf,hz=>by simp[mW]at hp;subst hp;simp[oJ]at hf;subst hf;exact⟨cells,rfl,hz⟩
 |(i,x)::r,oH,z,z',cells,hp,hf,hz=>by
  simp only[mW,U6,N7]at hp;obtain⟨f,hfi,n,hn,x',hx,r',hr,hp⟩:=hp;simp at hp;subst hp;simp only[oJ]at hf;split at hf
  .rename_i cs fe;split at hf
   .rename_i hlen;have hlen:cs.length=n:=aai hlen;split at hf
    .rename_i z1 PR;obtain⟨h1,h2,_⟩:=jY fe (aR hE hx);obtain⟨T0,he,CA⟩:=CU (rest:=r.map λp=>(p.1,a.eval p.2)) (jZ i f hfi n hn) hz (h1.trans hlen) hlen h2 PR
     obtain⟨fz,mT,rT⟩:=uV hE jZ hr hf CA;exact⟨fz,by rw[aaL,he,mT],rT⟩
    .cases hf
   .cases hf
  .cases hf
theorem uW(hE:bl ρ w aX a.tmps){sz:Nat}{place:Nat->Option (Nat×Nat)}(jZ:∀i,place i=some (i*sz,sz)):
  ∀{ps:List (Nat×Operand)}{oH:List (Nat×Nat×X)}{z z':List CC}{cells:Array Value},k8 sz ps=some oH->oJ aX z oH=some z'->Cells ρ w z cells->
   ∃fz,Instr.fill place cells (ps.map λp=>(p.1,a.eval p.2))=some fz/\Cells ρ w z' fz
 | [],oH,z,z',cells,hp,hf,hz=>by simp[k8]at hp;subst hp;simp[oJ]at hf;subst hf;exact⟨cells,rfl,hz⟩
 |(i,x)::r,oH,z,z',cells,hp,hf,hz=>by
  simp only[k8,U6,N7]at hp;obtain⟨x',hx,r',hr,hp⟩:=hp;simp at hp;subst hp;simp only[oJ]at hf;split at hf
  .rename_i cs fe;split at hf
   .rename_i hlen;have hlen:cs.length=sz:=aai hlen;split at hf
    .rename_i z1 PR;obtain⟨h1,h2,_⟩:=jY fe (aR hE hx);obtain⟨T0,he,CA⟩:=CU (rest:=r.map λp=>(p.1,a.eval p.2)) (jZ i) hz (h1.trans hlen) hlen h2 PR
     obtain⟨fz,mT,rT⟩:=uW hE jZ hr hf CA;exact⟨fz,by rw[aaL,he,mT],rT⟩
    .cases hf
   .cases hf
  .cases hf
theorem Fb{t:TypeId}{z:List CC}(hz:ek P t=some z):∃v,(zeroValue t).run P w= .ok v w/\Cells ρ w z v.cells:=by
 simp only[ek,U6,N7]at hz;obtain⟨i,hi,v,hv,hc⟩:=hz;obtain⟨hl,hd⟩:=ft (ρ:=ρ) (w:=w) hc;refine⟨v,by simp[zeroValue,typeInfo,hi,hv],by simpa using hl,λi c hi=>?_⟩
 obtain⟨u,hu,cy⟩:=hd i c hi;exact⟨u,by simpa using hu,cy⟩
theorem HI{cs:List CC}{cells:Array Value}(h:Cells ρ w cs cells):ce ρ w (.rv (.agg cs)) (.agg cells):=
 ⟨cells.toList,aE,by simpa using h.1,λi c hi=>let⟨u,hu,hd⟩:=h.2 i c hi;⟨u,by simpa using hu,hd⟩⟩
end
section
variable {P:Program} {ρ:bI} {m:Mem} {w:World} {aX:List CV} {a:Act} {K:CV->Mem->Prop}
theorem CW{α β:Type}{f:α->Option β}:∀{l:List α}{r:List β},l.mapM f=some r->∀(i:Nat)x,l[i]? =some x->∃y,f x=some y/\r[i]? =some y
 | [],r,h,i,x,hx=>by simp at hx
 |a::l,r,h,i,x,hx=>by
  simp only[List.mapM_cons,U6,N7,Option.pure_def]at h;obtain⟨y,hy,ys,hys,h⟩:=h;simp at h;subst h;cases i with
  |zero=>simp at hx;subst hx;exact⟨y,hy,aE⟩
  |succ i=>simpa using CW hys i x (by simpa using hx)
theorem uX(hM:ay ρ m w)(hE:bl ρ w aX a.tmps){t:TypeId}{ps:Array (Nat×Operand)}{z:List CC}{oH:List (Nat×Nat×X)}(hz:ek P t=some z)(hp:(∃fs,P.underlying t=some (.struct fs)/\(fs.toList.mapM (λf=>(P.info? f.type).map λi=>(f.offset,i.size))).isSome=true/\mW P fs ps.toList=some oH)\/
   (∃n e sz,P.underlying t=some (.array n e)/\eL P e=some sz/\k8 sz ps.toList=some oH))(h:step P (.build z oH) aX m K):dd P (do pure (Next.value (<-Instr.build t (ps.map λ(i,x)=>(i,a.eval x))))) ρ m w K:=by
 simp only[step]at h;obtain⟨z',hf,hK⟩:=aU.1 h;have EM:=hz;simp only[ek,U6,N7]at hz;obtain⟨i,hi,v,hv,hc⟩:=hz;obtain⟨hl,hd⟩:=ft (ρ:=ρ) (w:=w) hc;have dL:Cells ρ w z v.cells:=⟨by simpa using hl,λi c hi=>by
  obtain⟨u,hu,cy⟩:=hd i c hi;exact⟨u,by simpa using hu,cy⟩⟩
 have key:∃cells,P.built t (ps.map λ(i,x)=>(i,a.eval x)).toList=some cells/\Cells ρ w z' cells:=by
  rcases hp with⟨fs,hu,f8,hlp⟩|⟨n,e,sz,hu,dk,hlp⟩
  .obtain⟨places,jZ⟩:=Option.isSome_iff_exists.1 f8;obtain⟨cells,h1,h2⟩:=uV hE (fs:=fs) (place:=λi=>places.toArray[i]?) (λi f hfi n hn=>by
    obtain⟨y,hy,hr⟩:=CW jZ i f (by simpa using hfi)
    simp only[eL,aaz]at hn hy;obtain⟨i1,Jj,rfl⟩:=hn;obtain⟨i2,fg,rfl⟩:=hy;rw[Jj]at fg;cases fg;simpa using hr) hlp hf dL
   refine⟨cells,?_,h2⟩;unfold Program.built;simp only[hi,hu,hv,jZ];simpa using h1
  .obtain⟨cells,h1,h2⟩:=uW hE (sz:=sz) (place:=λi=>some (i*sz,sz)) (λi=>rfl) hlp hf dL
   refine⟨cells,?_,h2⟩;simp only[eL,aaz]at dk;obtain⟨ie,me,rfl⟩:=dk;unfold Program.built;simp only[hi,hu,hv,me];simpa using h1
 obtain⟨cells,hb,fe⟩:=key;refine dd.pure hM (v:= .agg cells) ?_ hK (HI fe);rw[Sem.run_bind,run_build w t _ cells hb];rfl
theorem Fc(hM:ay ρ m w)(hE:bl ρ w aX a.tmps){t:TypeId}{x:Operand}{x':X}{agg:Bool}{n:Nat}(ha:ec P t=some agg)(hs:eL P t=some n)(hx:bn x=some x')(h:step P (.load agg n x') aX m K):dd P (do pure (Next.value (<-Instr.loadAt t (a.eval x)))) ρ m w K:=by
 simp only[step]at h;obtain⟨ad,u,cv,hv,hr,hK,hd⟩:=uT hM ha hs h (aR hE hx);refine dd.pure hM (v:=u) ?_ hK hd;rw[hv];simp[Instr.loadAt,Instr.sureAddr,hr]
theorem nM{mk:Prop}(g o:Nat):∀(vs:List Value)(i:Nat)(cur:Array Value)(w:World),mE mk w g cur->o+i+vs.length<=cur.size->(∀v∈vs,v.oneCell'=true)->
  ∃w' gX,(storeCells ⟨g,o,none⟩ vs i).run P w= .ok () w'/\mE mk w' g gX/\eV w w' g/\gX.size=cur.size/\
   ∀k,gX[k]? =if o+i<=k/\k<o+i+vs.length then vs[k-(o+i)]? else cur[k]?
 | [],i,cur,w,hc,_,_=>⟨w,cur,rfl,hc,⟨λ_ _=>rfl,rfl,rfl,rfl,rfl⟩,rfl,λk=>by rw[if_neg aE]⟩
 |v::r,i,cur,w,hc,hl,h1=>by
  simp only[aau]at hl;have hi:o+i<cur.size:=om;have ju:w.cell? ⟨g,o+i,none⟩=some cur[o+i]:=by rw[hc.cell];simp[hi]
  have aah:=hc.qN hi;have lV:(store ((⟨g,o,none⟩:Addr).add i) v).run P w= .ok () (w.setCell ⟨g,o+i,none⟩ v):=by rw[mF,run_store P w _ v _ (h1 v aE),ju];simp[aah]
  have CA:mE mk (w.setCell ⟨g,o+i,none⟩ v) g (cur.setIfInBounds (o+i) v):=by
   obtain⟨ty,fr,hb,hf⟩:=hc;refine⟨ty,fr,?_,by simpa using hf⟩
   simp[World.setCell,aba,hb]
  have AU:eV w (w.setCell ⟨g,o+i,none⟩ v) g:=⟨λb hb=>by simp[World.setCell,aba,Ne.symm hb],aE,rfl,rfl,rfl⟩
  obtain⟨w',gX,hr,rT,ht,dk,hk⟩:=nM g o r (i+1) _ _ CA (by simp;omega) (λx hx=>h1 x (by simp[hx]))
  refine⟨w',gX,?_,rT,⟨λb hb=>(ht.heap b hb).trans (AU.heap b hb),ht.size.trans AU.size,ht.os,ht.tape,ht.output⟩,by simpa using dk,λk=>?_⟩
  .simp only[storeCells,Sem.run_bind,lV,Result.andThen_ok];exact hr
  .rw[hk k];simp only[aau];by_cases hb:o+(i+1)<=k/\k<o+(i+1)+r.length
   .rw[if_pos hb,if_pos om,show k-(o+i)=(k-(o+(i+1)))+1 by omega]
    simp
   .rw[if_neg hb,ab7];by_cases he:o+i=k
    .subst he;rw[if_pos rfl,if_pos om];simp
    .rw[if_neg he,if_neg om]
theorem CX(hM:ay ρ m w)(hE:bl ρ w aX a.tmps){t:TypeId}{n:Nat}{p x:Operand}{p' x':X}(hs:eL P t=some n)(HK:n≠0)(hp:bn p=some p')(hx:bn x=some x')(h:step P (.store n p' x') aX m K):dd P (do Instr.storeAt t (a.eval p) (a.eval x);pure Next.skip) ρ m w K:=by
 simp only[step]at h;obtain⟨xs,hxs,h⟩:=aU.1 h;rcases cn.1 h with⟨hn,h⟩|⟨_,h⟩
 case inr=>exact h.elim
 have hn:xs.length=n:=aai hn;obtain⟨c1,c2,c3⟩:=jY hxs (aR hE hx);have Zv:=aR hE hp;generalize a.eval p=pv at Zv;generalize p'.ev aX=pc at Zv h;generalize a.eval x=xv at c1 c2 c3;have sv:∀ad:Addr,Instr.storeAt t (.pointer (some ad)) xv=storeVar t ad xv:=λad=>rfl
 have run:∀{mk:Prop}(b off:Nat)(cur:Array Value),mE mk w b cur->off+xs.length<=cur.size->∃w' gX,(storeVar t ⟨b,off,none⟩ xv).run P w= .ok () w'/\mE mk w' b gX/\eV w w' b/\gX.size=cur.size/\
   ∀k,gX[k]? =if off<=k/\k<off+xs.length then xv.cells[k-off]? else cur[k]? :=by
  intro mk b off cur hc hle;obtain⟨w',gX,h1,h2,h3,h4,h5⟩:=nM (P:=P) b off xv.cells.toList 0 cur w hc (by simp[c1];omega) c3
  refine⟨w',gX,?_,h2,h3,h4,λk=>?_⟩
  .unfold storeVar;rw[Sem.run_bind,fq hs];simp only[Result.andThen_ok];rw[if_neg (by rw[c1,hn];simp)]
   simpa using h1
  .rw[h5 k];simp[c1]
 split at h
 .rename_i id j;obtain⟨aC,rfl⟩:=Zv;obtain⟨bk,hb,h⟩:=aU.1 h;rw[aT]at hb;cases bk<;>simp only at h
  rename_i cs;obtain⟨fj,hw,hK⟩:=aU.1 h;obtain⟨w1,w2,w3⟩:=jX hw;obtain⟨cur,bX,cq⟩:=hM.bk id _ hb;rw[aY]at hK;have kT:(ρ.aI (.aj id)).aq+j+xs.length<=cur.size:=by obtain⟨u,hu,_⟩:=cq (j+xs.length-1) _ (vU om);have:=(aaC.1 hu).1;omega
  obtain⟨w',gX,hr,rT,ht,dk,hk⟩:=run (ρ.aI (.aj id)).b ((ρ.aI (.aj id)).aq+j) cur bX kT;obtain⟨jo,hX⟩:=hM.Ly (zw:= .var fj) hb ⟨_,hb,aE,by rintro⟨_,_,e⟩;cases e⟩ ht (λg=>⟨gX,rT,λk c Qd=>by
   rw[w3 k]at Qd;rw[hk];by_cases ir:j<=k/\k<j+xs.length
   .rw[if_pos ir]at Qd;rw[if_pos om];obtain⟨u,hu,cy⟩:=c2 _ c Qd;exact⟨u,by rw[<-hu];congr 1;omega,cy.cm g aE⟩
   .rw[if_neg ir]at Qd;rw[if_neg om];obtain⟨u,hu,cy⟩:=cq k c Qd;exact⟨u,hu,cy.cm g aE⟩⟩) (by
   rintro i' j' esz e ⟨b2,fI,ia⟩;rw[TH (by rw[<-hM.n];exact aC)]at fI
   cases fI;cases ia)
  refine⟨.skip,Go.undef,w',.undef,_,ρ,?_,.inr ⟨rfl,rfl⟩,hK,jo,rfl,hX⟩;rw[sv,Sem.run_bind,hr];rfl
 .rename_i id esz i j;obtain⟨aC,rfl⟩:=Zv;obtain⟨bk,hb,h⟩:=aU.1 h;rw[aT]at hb;cases bk<;>simp only at h
  rename_i oK elems;rcases cn.1 h with⟨he,h⟩|⟨_,h⟩
  case inr=>exact h.elim
  have he:esz=oK:=aai he;obtain⟨cells,dL,h⟩:=aU.1 h;rw[aT]at dL;rcases cn.1 h with⟨kF,h⟩|⟨_,h⟩
  case inr=>exact h.elim
  obtain⟨fz,hw,hK⟩:=aU.1 h;obtain⟨w1,w2,w3⟩:=jX hw;obtain⟨h2,h3,h4,h5,Cz⟩:=hM.bk id _ hb;have we:=(Km.1 dL).1;have cI:0<(ρ.aI (.aj id)).cap:=om;obtain⟨cur,bX,h1,cq⟩:=Cz cI;rw[aY,aY]at hK;subst he;have iB:cells.length=esz:=h5 _ (Tp dL);have hi:i<elems.length:=(Km.1 dL).1;have hmul:i*esz+esz<=(ρ.aI (.aj id)).cap*esz:=by have:(i+1)*esz<=(ρ.aI (.aj id)).cap*esz:=aaZ _ om;rwa [abf,ab3]at this
  obtain⟨w',gX,hr,rT,ht,dk,hk⟩:=run (ρ.aI (.aj id)).b ((ρ.aI (.aj id)).aq+i*esz+j) cur bX om;obtain⟨jo,hX⟩:=hM.Ly (zw:= .row esz (elems.set i fz)) hb ⟨_,hb,aE,λ_=>cI⟩ ht (λg=>⟨by simpa using h2,h3,h4,λcs fe=>by
    rcases aaK fe with hm|rfl
    .exact h5 cs hm
    .rw[w1,iB],λ_=>⟨gX,rT,by rw[dk];exact h1,λi' cs j' c eO oz=>by
   rw[hk];by_cases PS:i=i'
   .subst PS;rw[TH hi]at eO;simp only[aav]at eO;subst eO;rw[w3 j']at oz;by_cases ir:j<=j'/\j'<j+xs.length
    .rw[if_pos ir]at oz;rw[if_pos om];obtain⟨u,hu,cy⟩:=c2 _ c oz;exact⟨u,by rw[<-hu];congr 1;omega,(cy.cm g aE).wO _⟩
    .rw[if_neg ir]at oz;rw[if_neg om];obtain⟨u,hu,cy⟩:=cq i cells j' c dL oz;exact⟨u,hu,cy.cm g (by rintro _ _ _ e;cases e;exact aC)⟩
   .rw[U7 PS]at eO;obtain⟨u,hu,cy⟩:=cq i' cs j' c eO oz;have aeA:j'<esz:=by rw[<-h5 _ (Tp eO)];exact(Km.1 oz).1
    have dh:¬((ρ.aI (.aj id)).aq+i*esz+j<=(ρ.aI (.aj id)).aq+i'*esz+j'/\(ρ.aI (.aj id)).aq+i'*esz+j'<(ρ.aI (.aj id)).aq+i*esz+j+xs.length):=by
     rcases Nat.lt_or_gt_of_ne PS with oP|oP
     .have:(i+1)*esz<=i'*esz:=aaZ _ oP;rw[abf,ab3]at this;omega
     .have:(i'+1)*esz<=i*esz:=aaZ _ oP;rw[abf,ab3]at this;omega
    rw[if_neg dh];exact⟨u,hu,cy.cm g (by rintro _ _ _ e;cases e;exact aC)⟩⟩⟩) (by
   rintro i' j' rQ e ⟨b2,fI,ia⟩;rw[TH (by rw[<-hM.n];exact aC)]at fI
   cases fI;obtain⟨Zw,fg,lW⟩:=ia.yO;by_cases PS:i=i'
   .subst PS;rw[TH hi]at fg;cases fg;rw[w3 j']at lW;by_cases ir:j<=j'/\j'<j+xs.length
    .rw[if_pos ir]at lW;obtain⟨u,hu,cy⟩:=c2 _ _ lW;exact absurd rfl (cy.AS _ _)
    .rw[if_neg ir]at lW;exact⟨_,hb,.row dL lW⟩
   .rw[U7 PS]at fg;exact⟨_,hb,.row fg lW⟩)
  refine⟨.skip,Go.undef,w',.undef,_,ρ,?_,.inr ⟨rfl,rfl⟩,hK,jo,rfl,hX⟩;rw[sv,Sem.run_bind,hr];rfl
 .exact h.elim
end
section
variable {P:Program} {ρ:bI} {m:Mem} {w:World} {aX:List CV} {a:Act} {K:CV->Mem->Prop}
theorem Fd(hM:ay ρ m w)(hE:bl ρ w aX a.tmps){t:TypeId}{fs:Array Field}{f:Field}{k n:Nat}{x:Operand}{x':X}(hu:P.underlying t=some (.struct fs))(hf:fs[k]? =some f)(hs:eL P f.type=some n)(hn:n≠0)(hx:bn x=some x')(h:step P (.b8 f.offset x') aX m K):dd P (do pure (Next.value (<-Instr.fieldAt t (a.eval x) k))) ρ m w K:=by
 have hd:=aR hE hx;simp only[step]at h;have run:∀b off:Nat,(Instr.fieldAt t (.pointer (some ⟨b,off,none⟩)) k).run P w= .ok (.pointer (some ⟨b,off+f.offset,none⟩)) w:=λb off=>by simp[Instr.fieldAt,run_underlying hu,hf,Instr.sureAddr,fieldPlace,fq hs,hn,mF]
 generalize a.eval x=v at hd|-;generalize x'.ev aX=c at hd h;split at h
 .obtain⟨aC,rfl⟩:=hd;exact dd.pure hM (by rw[Sem.run_bind,run];rfl) h ⟨aC,by simp[abg]⟩
 .obtain⟨aC,rfl⟩:=hd;exact dd.pure hM (by rw[Sem.run_bind,run];rfl) h ⟨aC,by simp[abg]⟩
 .obtain⟨b,off,rfl,hS,cq⟩:=hd;refine dd.pure hM (by rw[Sem.run_bind,run];rfl) h ⟨b,off+f.offset,rfl,hS,λj d hj=>?_⟩
  rw[abj]at hj;rw[abg];exact cq _ d hj
 .exact h.elim
theorem CY{t:TypeId}{agg:Bool}{off n:Nat}{cs l:List CC}{cells:Array Value}{cv:CV}(ha:ec P t=some agg)(hs:eL P t=some n)(hc:Cells ρ w cs cells)(hr:iU cs off n=some l)(hm:L7 agg l=some cv):∃u,(part t cells off).run P w= .ok u w/\ce ρ w cv u:=by
 obtain⟨hl,kD⟩:=lm hr;unfold part;rw[Sem.run_bind,pQ ha];simp only[Result.andThen_ok];cases agg with
 |true=>
  simp[L7]at hm;subst hm;refine⟨.agg (cells.extract off (off+n)),by simp[fq hs],?_⟩
  refine HI ⟨?_,λi c hi=>?_⟩
  .simp only[Array.size_extract,hl];rcases abi n with h0|h0
   .omega
   .have:=kD (n-1) om;have h1:off+(n-1)<cs.length:=by
     rcases aaf (off+(n-1)) cs.length with h|h
     .exact h
     .rw[aaE h,vU om]at this;cases this
    have:=hc.1;omega
  .have ir:i<n:=by rw[<-hl];exact(Km.1 hi).1
   obtain⟨u,hu,cy⟩:=hc.2 (off+i) c ((kD i ir).trans hi);have aC:=(aaC.1 hu).1;refine⟨u,?_,cy⟩;rw[Array.getElem?_extract];rw[if_pos om];exact hu
 |false=>
  match l,hm with
  | [c],hm=>
   simp[L7]at hm;subst hm;obtain⟨u,hu,cy⟩:=hc.2 off c (by have:=kD 0 (by simp at hl;omega);simpa using this)
   exact⟨u,by simp[hu],cy⟩
theorem Jk(hM:ay ρ m w)(hE:bl ρ w aX a.tmps){t:TypeId}{fs:Array Field}{f:Field}{k n:Nat}{agg:Bool}{x:Operand}{x':X}(hu:P.underlying t=some (.struct fs))(hf:fs[k]? =some f)(ha:ec P f.type=some agg)(hs:eL P f.type=some n)(hx:bn x=some x')(h:step P (.Wp agg f.offset n x') aX m K):dd P (do pure (Next.value (<-Instr.field t (a.eval x) k))) ρ m w K:=by
 have hd:=aR hE hx;simp only[step]at h;generalize a.eval x=v at hd|-;generalize x'.ev aX=c at hd h;split at h
 .rename_i cs;obtain⟨vs,rfl,hl,hc⟩:=hd;obtain⟨l,hr,h⟩:=aU.1 h;obtain⟨cv,hm,hK⟩:=aU.1 h;obtain⟨u,cP,cy⟩:=CY (w:=w) ha hs (cells:=vs.toArray) ⟨by simpa using hl,λi c hi=>by simpa using hc i c hi⟩ hr hm
  refine dd.pure hM (v:=u) ?_ hK cy;simp[Instr.field,run_underlying hu,hf,asAgg,cP]
 .exact h.elim
theorem zx{α:Type}{l:List α}{n:Int}{x:α}(h:dD l n=some x):∃k:Nat,n=k/\l[k]? =some x:=by
 cases n with
 |ofNat k=>exact⟨k,rfl,by simpa[dD,aT]using h⟩
 |negSucc k=>simp[dD]at h
theorem mZ{n:Int}{len k:Nat}(h:dZ n len=some k):n=k/\k<len:=by
 cases n with
 |ofNat j=>
  simp only[dZ]at h;split at h
  .rename_i hb;simp at h;subst h;exact⟨rfl,by simpa[abJ]using hb⟩
  .cases h
 |negSucc j=>simp[dZ]at h
theorem mf(a b:Nat):iM a b=a+b:=by
 cases a<;>simp[iM]
theorem iW(n lo:Nat)(hi:Option Nat):lenOf n lo hi=hi.getD n-lo:=by
 cases lo<;>cases hi<;>simp[lenOf]
theorem pR{k:IntKind}{n:Int}{v:Value}(h:ce ρ w (.rv (.one (.ah (.val (.int k n))))) v):v= .int k n:=(bF h).1
theorem mg{t e:TypeId}{esz:Nat}(hu:P.underlying t=some (.slice e))(hs:eL P e=some esz)(b off len cap k:Nat)(kd:IntKind)(hk:k<len):
  (Instr.indexAt t (.slice (some ⟨b,off,none⟩) len cap) (.int kd (k:Int))).run P w= .ok (.pointer (some ⟨b,off+k*esz,none⟩)) w:=by
 have h1:(0:Int)<=(k:Int)/\(k:Int)<(len:Int):=⟨om,om⟩;simp[Instr.indexAt,asIntOf,run_underlying hu,fq hs,mF];omega
theorem Jl(hM:ay ρ m w)(hE:bl ρ w aX a.tmps){t e:TypeId}{esz:Nat}{x i:Operand}{x' i':X}(hu:P.underlying t=some (.slice e))(hs:eL P e=some esz)(hx:bn x=some x')(hi:bn i=some i')(h:step P (.cz esz x' i') aX m K):dd P (do pure (Next.value (<-Instr.indexAt t (a.eval x) (a.eval i)))) ρ m w K:=by
 have hd:=aR hE hx;have EN:=aR hE hi;simp only[step]at h;generalize a.eval x=v at hd|-;generalize a.eval i=vi at EN|-;generalize x'.ev aX=c at hd h;generalize i'.ev aX=ci at EN h;split at h
 .rename_i kd n;obtain rfl:=pR EN;split at h
  .rename_i oK elems;rcases cn.1 h with⟨he,g1⟩|⟨_,g1⟩
   case inr=>exact g1.elim
   have he:esz=oK:=aai he;subst he;obtain⟨ds,hg,hK⟩:=aU.1 g1;obtain⟨k,rfl,hk⟩:=zx hg;have aC:=(Km.1 hk).1;cases hd with
   |nil=>simp at aC
   |sl _ _ b off cap u hS hl be dk hc cq=>
    refine dd.pure hM (by rw[Sem.run_bind,mg hu hs b off _ cap k kd aC];rfl) hK ⟨b,off+k*esz,rfl,hS,λj d hj=>?_⟩
    exact⟨_,hc k ds j d hk hj,cq k ds j d hk hj⟩
  .rename_i id oK lo hi;obtain⟨bk,hb,h⟩:=aU.1 h;rw[aT]at hb;cases bk<;>simp only at h
   rename_i rQ elems;rcases cn.1 h with⟨he,g1⟩|⟨_,g1⟩
   case inr=>exact g1.elim
   rcases cn.1 g1 with⟨kL,g2⟩|⟨_,g2⟩
   case inr=>exact g2.elim
   have he:esz=oK:=aai he;subst he;obtain⟨k,hg,hK⟩:=aU.1 g2;obtain⟨rfl,hk⟩:=mZ hg;obtain⟨h2,h3,h4,h5,Cz⟩:=hM.bk id _ hb;obtain⟨aC,d1,d2,d3,d4,ad,rfl,vH⟩:=hd;rw[iW,h2]at hk;rw[vH (by clear Cz;omega)]
   refine dd.pure hM (by rw[Sem.run_bind,mg hu hs _ _ _ _ k kd hk];rfl) hK ⟨aC,?_⟩
   rw[mf,abf];simp[abg]
  .exact h.elim
 .exact h.elim
theorem iX{t e:TypeId}{esz len:Nat}(hu:P.underlying t=some (.array len e))(hs:eL P e=some esz)(b off k:Nat)(kd:IntKind)(hk:k<len):
  (Instr.indexAt t (.pointer (some ⟨b,off,none⟩)) (.int kd (k:Int))).run P w= .ok (.pointer (some ⟨b,off+k*esz,none⟩)) w:=by
 have h1:(0:Int)<=(k:Int)/\(k:Int)<(len:Int):=⟨om,om⟩;simp[Instr.indexAt,asIntOf,run_underlying hu,fq hs,mF,Instr.sureAddr];omega
theorem Fe(hM:ay ρ m w)(hE:bl ρ w aX a.tmps){t e:TypeId}{len esz:Nat}{x i:Operand}{x' i':X}(hu:P.underlying t=some (.array len e))(hs:eL P e=some esz)(hx:bn x=some x')(hi:bn i=some i')(h:step P (.wv len esz x' i') aX m K):dd P (do pure (Next.value (<-Instr.indexAt t (a.eval x) (a.eval i)))) ρ m w K:=by
 have hd:=aR hE hx;have EN:=aR hE hi;simp only[step]at h;generalize a.eval x=v at hd|-;generalize a.eval i=vi at EN|-;generalize x'.ev aX=c at hd h;generalize i'.ev aX=ci at EN h;split at h
 .rename_i kd n;obtain rfl:=pR EN;split at h
  .obtain⟨k,hg,hK⟩:=aU.1 h;obtain⟨rfl,hk⟩:=mZ hg;obtain⟨aC,rfl⟩:=hd;exact dd.pure hM (by rw[Sem.run_bind,iX hu hs _ _ k kd hk];rfl) hK ⟨aC,by simp[abg]⟩
  .obtain⟨k,hg,hK⟩:=aU.1 h;obtain⟨rfl,hk⟩:=mZ hg;obtain⟨aC,rfl⟩:=hd;exact dd.pure hM (by rw[Sem.run_bind,iX hu hs _ _ k kd hk];rfl) hK ⟨aC,by simp[abg]⟩
  .obtain⟨k,hg,hK⟩:=aU.1 h;obtain⟨rfl,hk⟩:=mZ hg;obtain⟨b,off,rfl,hS,cq⟩:=hd;refine dd.pure hM (by rw[Sem.run_bind,iX hu hs _ _ k kd hk];rfl) hK ⟨b,off+k*esz,rfl,hS,λj d hj=>?_⟩
   rw[abj]at hj;rw[abg];exact cq _ d hj
  .exact h.elim
 .exact h.elim
theorem Ff(hM:ay ρ m w)(hE:bl ρ w aX a.tmps){t:TypeId}{x i:Operand}{x' i':X}(hu:P.underlying t=some .string)(hx:bn x=some x')(hi:bn i=some i')(h:step P (.CK x' i') aX m K):dd P (do pure (Next.value (<-Instr.index t (a.eval x) (a.eval i)))) ρ m w K:=by
 have hd:=aR hE hx;have EN:=aR hE hi;simp only[step]at h;generalize a.eval x=v at hd|-;generalize a.eval i=vi at EN|-;generalize x'.ev aX=c at hd h;generalize i'.ev aX=ci at EN h;split at h
 .rename_i kd n;obtain rfl:=pR EN;split at h
  .rename_i s;obtain⟨rfl,_⟩:=bF hd;obtain⟨b,hg,hK⟩:=aU.1 h;obtain⟨k,rfl,hk⟩:=zx hg;have aC:k<s.size:=by have:=(Km.1 hk).1;simpa using this
   have hs:s[k]? =some b:=by
    rw[vU (by simpa using aC)]at hk
    simp at hk;rw[getElem?_pos s k aC];simp[<-hk];rfl
   refine dd.pure hM (v:= .int .u8 b.toNat) ?_ hK (cA rfl);simp[Instr.index,asIntOf,run_underlying hu,hs]
  .exact h.elim
 .exact h.elim
theorem zy(hM:ay ρ m w)(hE:bl ρ w aX a.tmps){op:BinOp}{t:TypeId}{x y:Operand}{x' y':X}(hx:bn x=some x')(hy:bn y=some y')(h:step P (.aJ op x' y') aX m K):dd P (do let v<-(do eqGuard op t x y (a.eval x) (a.eval y);binOp op t (a.eval x) (a.eval y));pure (Next.value v)) ρ m w K:=by
 have hd:=aR hE hx;have qx:=aR hE hy;simp only[step]at h;generalize a.eval x=v at hd|-;generalize a.eval y=u at qx|-;generalize x'.ev aX=c at hd h;generalize y'.ev aX=d at qx h;split at h
 .split at h
  .obtain⟨r,hr,hK⟩:=aU.1 h;obtain⟨rfl,hp⟩:=bF hd (λe=>by subst e;simp[Jc]at hr)
   obtain⟨rfl,hq⟩:=bF qx (λe=>by subst e;cases v<;>simp[Jc]at hr)
   obtain⟨h1,h2⟩:=Fa (P:=P) (w:=w) hr (t:=t);refine dd.pure hM (v:=r) ?_ hK (cA h2);have hg:(eqGuard op t x y v u).run P w= .ok () w:=uU hp (by rintro rfl;cases u<;>simp[Jc]at hr)
   simp only[Sem.run_bind,hg,Result.andThen_ok,h1,Sem.run_pure]
  .exact h.elim
 .exact h.elim
theorem zA(hM:ay ρ m w)(hE:bl ρ w aX a.tmps){neg:Bool}{t:TypeId}{x y:Operand}{x' y':X}(ht:P.underlying t=some .bool)(hx:bn x=some x')(hy:bn y=some y')(h:step P (.beq neg x' y') aX m K):dd P (do let v<-(do eqGuard (if neg then .neq else .eql) t x y (a.eval x) (a.eval y);binOp (if neg then .neq else .eql) t (a.eval x) (a.eval y));pure (Next.value v)) ρ m w K:=by
 have hd:=aR hE hx;have qx:=aR hE hy;simp only[step]at h;generalize a.eval x=v at hd|-;generalize a.eval y=u at qx|-;generalize x'.ev aX=c at hd h;generalize y'.ev aX=d at qx h;split at h
 .split at h
  .obtain⟨rfl,hp⟩:=bF hd;obtain⟨rfl,hq⟩:=bF qx;refine dd.pure hM (v:=_) ?_ h (cA rfl);rw[Sem.run_bind,Sem.run_bind,uU hp aE];simp only[Result.andThen_ok,Qc ht,Sem.run_pure]<;>rfl
  .exact h.elim
 .exact h.elim
theorem Mi(hM:ay ρ m w)(hE:bl ρ w aX a.tmps){op:UnOp}{x:Operand}{x':X}(hx:bn x=some x')(h:step P (.un op x') aX m K):dd P (do pure (Next.value (<-Op.unary op (a.eval x)))) ρ m w K:=by
 have hd:=aR hE hx;simp only[step]at h;generalize a.eval x=v at hd|-;generalize x'.ev aX=c at hd h;split at h
 .obtain⟨r,hr,hK⟩:=aU.1 h;obtain⟨rfl,hp⟩:=bF hd (λe=>by subst e;simp[Zs]at hr)
  obtain⟨h1,h2⟩:=Jh (P:=P) (w:=w) hr;exact dd.pure hM (v:=r) (by rw[Sem.run_bind,h1];rfl) hK (cA h2)
 .exact h.elim
theorem Fg(hM:ay ρ m w)(hE:bl ρ w aX a.tmps){s d:TypeId}{k0 k:IntKind}{x:Operand}{x':X}(hs:P.underlying s=some (.int k0))(hk:P.underlying d=some (.int k))(hx:bn x=some x')(h:step P (.conv k x') aX m K):dd P (do pure (Next.value (<-convert s d (a.eval x)))) ρ m w K:=by
 have hd:=aR hE hx;simp only[step]at h;generalize a.eval x=v at hd|-;generalize x'.ev aX=c at hd h;split at h
 .obtain rfl:=pR hd;refine dd.pure hM (v:=_) ?_ h (cA rfl);simp[convert,run_underlying hs,run_underlying hk,Conv.intToInt]
 .exact h.elim
theorem Jm(hM:ay ρ m w)(hE:bl ρ w aX a.tmps){s d:TypeId}{x:Operand}{x':X}(hs:P.underlying s=some .string)(hk:P.underlying d=some .string)(hx:bn x=some x')(h:step P (.Wq x') aX m K):dd P (do pure (Next.value (<-convert s d (a.eval x)))) ρ m w K:=by
 have hd:=aR hE hx;simp only[step]at h;generalize a.eval x=v at hd|-;generalize x'.ev aX=c at hd h;split at h
 .obtain⟨rfl,hp⟩:=bF hd;refine dd.pure hM (v:=_) ?_ h (cA rfl);simp[convert,run_underlying hs,run_underlying hk]
 .exact h.elim
theorem tI(hE:bl ρ w aX a.tmps):∀{xs:List Operand}{HL:List X},uS xs=some HL->(Hx aX HL).length=xs.length/\
  ∀(i:Nat)c,(Hx aX HL)[i]? =some c->∃v,(xs.map a.eval)[i]? =some v/\ce ρ w c v
 | [],HL,h=>by simp[uS]at h;subst h;simp[Hx]
 |x::r,HL,h=>by
  simp only[uS,U6,N7]at h;obtain⟨x',hx,r',hr,h⟩:=h;simp at h;subst h;obtain⟨h1,h2⟩:=tI hE hr;refine⟨by simp[Hx,h1],λi c hi=>?_⟩
  cases i with
  |zero=>simp[Hx]at hi;subst hi;exact⟨_,aE,aR hE hx⟩
  |succ i=>simpa using h2 i c (by simpa[Hx]using hi)
theorem uY:∀{cs:List CV}{kJ:List Nat},wy cs=some kJ->cs=kJ.map λid=>CV.rv (.one (.ptr id 0))
 | [],kJ,h=>by simp[wy]at h;subst h;rfl
 |c::r,kJ,h=>by
  unfold wy at h;split at h
  .rename_i h1;simp at h1
  .rename_i id r' h1;simp only[aeb]at h1;obtain⟨rfl,rfl⟩:=h1;split at h
   .rename_i l hl;simp at h;subst h;rw[uY hl];rfl
   .cases h
  .cases h
theorem wP:∀kJ:List Nat,wd kJ=kJ.map λid=>CV.rv (.one (.ptr id 0))
 | []=>rfl
 |id::r=>by simp[wd,wP r]
theorem Mj(hM:ay ρ m w)(hE:bl ρ w aX a.tmps){f:Nat}{xs:Array Operand}{HL:List X}(hx:uS xs.toList=some HL)(h:step P (.fn f HL) aX m K):dd P (do pure (Next.value (<-Instr.makeFunc (.func f) ((#[]:Array Operand).map a.eval) (xs.map a.eval)))) ρ m w K:=by
 simp only[step]at h;obtain⟨kJ,hi,hK⟩:=aU.1 h;obtain⟨h1,h2⟩:=tI hE hx;rw[uY hi]at h1 h2;refine dd.pure hM (v:= .func (.func f) #[] (xs.map a.eval)) (by simp[Instr.makeFunc]) hK ⟨λid hid=>?_,?_⟩
 .obtain⟨k,hk,rfl⟩:=adr hid;obtain⟨v,_,hd⟩:=h2 k _ (by rw[Tm,vU hk];rfl)
  exact hd.1
 .congr 1;apply abZ;rw[Array.toList_map];apply abr;intro k;simp only[Pj]at h1;rcases aaf k kJ.length with hk|hk
  .obtain⟨v,hv,hd⟩:=h2 k _ (by rw[Tm,vU hk];rfl)
   rw[hv,hd.2];simp[vU hk]
  .rw[aaE (by simp;rw[<-Array.length_toList,<-h1];exact hk),aaE (by simpa using hk)]
theorem Jn(hM:ay ρ m w)(hE:bl ρ w aX a.tmps){i:Nat}{x:Operand}{x':X}(hx:bn x=some x')(h:step P (.ext x' i) aX m K):dd P (do pure (Next.value (<-Instr.extract (a.eval x) i))) ρ m w K:=by
 have hd:=aR hE hx;simp only[step]at h;generalize a.eval x=v at hd|-;generalize x'.ev aX=c at hd h;split at h
 .obtain⟨r,hr,hK⟩:=aU.1 h;rw[aT]at hr;obtain⟨vs,rfl,hl,hc⟩:=hd;obtain⟨u,hu,cy⟩:=hc i r hr;refine dd.pure hM (v:=u) ?_ hK cy;simp[Instr.extract,hu]
 .exact h.elim
theorem tJ(hM:ay ρ m w)(hE:bl ρ w aX a.tmps){t ty:TypeId}{x:Operand}{x':X}{k:Nat}(hu:(k=0/\P.underlying t=some .string)\/(k=1/\∃e,P.underlying t=some (.slice e))\/(k=2/\∃kt e,P.underlying t=some (.map kt e)))(hx:bn x=some x')(h:step P (.len k x') aX m K):dd P (do pure (Next.value (<-Builtin.len_ #[t] ty #[a.eval x]))) ρ m w K:=by
 have hd:=aR hE hx;generalize a.eval x=v at hd|-;rcases hu with⟨rfl,hu⟩|⟨rfl,e,hu⟩|⟨rfl,kt,e,hu⟩
 .simp only[step]at h;generalize x'.ev aX=c at hd h;split at h
  .obtain⟨rfl,hp⟩:=bF hd;refine dd.pure hM (v:=_) ?_ h (cA rfl);simp[Builtin.len_,run_underlying hu,goInt]
  .exact h.elim
 .simp only[step]at h;generalize x'.ev aX=c at hd h;split at h
  .rename_i esz elems;refine dd.pure hM (v:= .int .i64 (elems.length:Int)) ?_ h (cA rfl);cases hd<;>simp[Builtin.len_,run_underlying hu,goInt]
  .rename_i id esz lo hi;obtain⟨bk,hb,h⟩:=aU.1 h;rw[aT]at hb;cases bk<;>simp only at h
   rename_i oK elems;obtain⟨h2,h3,h4,h5,Cz⟩:=hM.bk id _ hb;obtain⟨aC,d1,d2,d3,d4,ad,rfl,vH⟩:=hd;rw[iW,h2]at h;refine dd.pure hM (v:=_) ?_ h (cA rfl);simp[Builtin.len_,run_underlying hu,goInt]
  .obtain⟨ad,rfl⟩:=hd;refine dd.pure hM (v:=_) ?_ h (cA rfl);simp[Builtin.len_,run_underlying hu,goInt]
  .exact h.elim
 .simp only[step]at h;generalize x'.ev aX=c at hd h;split at h
  .rename_i id;obtain⟨bk,hb,h⟩:=aU.1 h;rw[aT]at hb;cases bk<;>simp only at h
   rename_i es;obtain⟨bq,clock,eF,dk,vI⟩:=hM.bk id _ hb;obtain⟨aC,rfl⟩:=hd;refine dd.pure hM (v:= .int .i64 (es.length:Int)) ?_ h (cA rfl);simp[Builtin.len_,run_underlying hu,goInt,getObj,Sem.run,eF,dk]
  .exact h.elim
theorem Fh(hM:ay ρ m w)(hE:bl ρ w aX a.tmps){x:Operand}{x':X}{o:Oper}(ho:o.op= .nilCheck x)(hx:bn x=some x')(h:step P (.aP x') aX m K):dd P (execOp a.eval o) ρ m w K:=by
 have hd:=aR hE hx;simp only[step]at h;unfold execOp;rw[ho];simp only;generalize a.eval x=v at hd|-;generalize x'.ev aX=c at hd h;split at h
 .have T1:=hd;obtain⟨aC,rfl⟩:=hd;exact dd.pure hM rfl h T1
 .have T1:=hd;obtain⟨aC,rfl⟩:=hd;exact dd.pure hM rfl h T1
 .have T1:=hd;obtain⟨b,off,rfl,_⟩:=hd;exact dd.pure hM rfl h T1
 .exact h.elim
theorem Fi(hM:ay ρ m w)(hE:bl ρ w aX a.tmps){c x y:Operand}{c' x' y':X}(hc:bn c=some c')(hx:bn x=some x')(hy:bn y=some y')(h:step P (.pick c' x' y') aX m K):dd P (do pure (Next.value (if<-asBool (a.eval c)then a.eval x else a.eval y))) ρ m w K:=by
 have hd:=aR hE hc;simp only[step]at h;generalize a.eval c=v at hd|-;generalize c'.ev aX=cc at hd h;split at h
 .obtain⟨rfl,hp⟩:=bF hd;rcases cn.1 h with⟨rfl,h⟩|⟨rfl,h⟩
  .exact dd.pure hM (v:=a.eval x) (by simp[asBool]) h (aR hE hx)
  .exact dd.pure hM (v:=a.eval y) (by simp[asBool]) h (aR hE hy)
 .exact h.elim
theorem Ml{α:Type}{n i:Nat}{x y:α}(h:(gI n x)[i]? =some y):y=x/\i<n:=by
 rw[fY,adx]at h;split at h
 .exact⟨by simpa using h.symm,by assumption⟩
 .cases h
def AV(ρ:bI)(w:World)(esz:Nat)(rows:List (List CC))(cells:Array Value):Prop:=
 cells.size=rows.length*esz/\(∀cs,cs∈rows->cs.length=esz)/\
  ∀(i:Nat)cs(j:Nat)c,rows[i]? =some cs->cs[j]? =some c->∃u,cells[i*esz+j]? =some u/\bj ρ w .none c u
theorem uZ(hE:bl ρ w aX a.tmps){esz:Nat}:
  ∀{ps:List (Nat×Operand)}{oH:List (Nat×X)}{rows m4:List (List CC)}{cells:Array Value},k9 ps=some oH->uQ aX esz rows oH=some m4->AV ρ w esz rows cells->
   ∃fz,Instr.fill (λi=>some (i*esz,esz)) cells (ps.map λp=>(p.1,a.eval p.2))=some fz/\AV ρ w esz m4 fz/\m4.length=rows.length
 | [],oH,z,z',cells,hp,hf,hz=>by simp[k9]at hp;subst hp;simp[uQ]at hf;subst hf;exact⟨cells,rfl,hz,rfl⟩
 |(i,x)::r,oH,z,z',cells,hp,hf,hz=>by
  simp only[k9,U6,N7]at hp;obtain⟨x',hx,r',hr,hp⟩:=hp;simp at hp;subst hp;simp only[uQ]at hf;split at hf
  .rename_i cs fe;split at hf
   .rename_i hlen;simp only[aab,abJ]at hlen;have hl:cs.length=esz:=aai hlen.1;obtain⟨h1,h2,_⟩:=jY fe (aR hE hx);have dk:i*esz+esz<=cells.size:=by rw[hz.1];have:(i+1)*esz<=z.length*esz:=aaZ _ hlen.2;rwa [abf,ab3]at this
    have hff:=tH (i*esz) (a.eval x).cells.toList 0 cells;simp only[ac6]at hff;have he:(a.eval x).cells.zipIdx.foldl (λcs(p:Value×Nat)=>cs.setIfInBounds (i*esz+p.2) p.1) cells=((a.eval x).cells.toList.zipIdx 0).foldl (λ(cs:Array Value)(p:Value×Nat)=>cs.setIfInBounds (i*esz+p.2) p.1) cells:=by rw[<-Array.foldl_toList];simp
    have CZ:Instr.fill (λi=>some (i*esz,esz)) cells ((i,a.eval x)::r.map λp=>(p.1,a.eval p.2))=
      Instr.fill (λi=>some (i*esz,esz)) ((a.eval x).cells.zipIdx.foldl (λcs(p:Value×Nat)=>cs.setIfInBounds (i*esz+p.2) p.1) cells) (r.map λp=>(p.1,a.eval p.2)):=by
     rw[Instr.fill];simp only;rw[if_neg (by rw[h1,hl];simp;omega)]
    have WG:AV ρ w esz (aV z i cs) ((a.eval x).cells.zipIdx.foldl (λcs(p:Value×Nat)=>cs.setIfInBounds (i*esz+p.2) p.1) cells):=by
     rw[he,aY];refine⟨by rw[hff.1,hz.1];simp,λfj Mm=>?_,λi' fj j c eO hj=>?_⟩
     .rcases aaK Mm with hm|rfl
      .exact hz.2.1 fj hm
      .exact hl
     .have u0:(a.eval x).cells.toList.length=esz:=by simp[h1,hl]
      rw[hff.2 (by rw[u0];exact dk),u0]
      by_cases PS:i=i'
      .subst PS;rw[TH hlen.2]at eO;simp only[aav]at eO;subst eO;have lW:j<esz:=by rw[<-hl];exact(Km.1 hj).1
       rw[if_pos om];obtain⟨u,hu,cy⟩:=h2 j c hj;exact⟨u,by rw[show i*esz+j-i*esz=j by omega];simpa using hu,cy⟩
      .rw[U7 PS]at eO;have lW:j<esz:=by rw[<-hz.2.1 _ (Tp eO)];exact(Km.1 hj).1
       rw[if_neg]
       .exact hz.2.2 i' fj j c eO hj
       .rcases Nat.lt_or_gt_of_ne PS with oP|oP
        .have:(i+1)*esz<=i'*esz:=aaZ _ oP;rw[abf,ab3]at this;omega
        .have:(i'+1)*esz<=i*esz:=aaZ _ oP;rw[abf,ab3]at this;omega
    obtain⟨fz,h3,h4,h5⟩:=uZ hE hr hf WG;exact⟨fz,by rw[aaL,CZ,h3],h4,by rw[h5,aY];simp⟩
   .cases hf
  .cases hf
theorem Fj(zero:Array Value)(n:Nat)(k:Nat)(hk:k<n)(hz:0<zero.size):((Array.range n).map (zero[· %zero.size]!))[k]? =zero[k%zero.size]? :=by have:k%zero.size<zero.size:=Nat.mod_lt _ hz;simp[hk,this]
theorem Jo(hM:ay ρ m w)(hE:bl ρ w aX a.tmps){t e:TypeId}{n:Nat}{ps:Array (Nat×Operand)}{z:List CC}{oH:List (Nat×X)}(hu:P.underlying t=some (.slice e))(hz:ek P e=some z)(hs:eL P e=some z.length)(cI:0<z.length)(hn:n*z.length<=2^24)(hp:k9 ps.toList=some oH)(h:step P (.od z.length z n oH) aX m K):dd P (do pure (Next.value (<-Instr.buildSlice t n (ps.map λ(i,x)=>(i,a.eval x))))) ρ m w K:=by
 simp only[step]at h;obtain⟨rows,hf,hK⟩:=aU.1 h;rw[fp,gP,cg]at hK;obtain⟨zv,Lz,Qe⟩:=Fb (ρ:=ρ) (w:=w) hz;have aak:zv.cells.size=z.length:=Qe.1;have h0:AV ρ w z.length (gI n z) ((Array.range (n*z.length)).map (zv.cells[· %zv.cells.size]!)):=by
  refine⟨by simp[fY],λcs fe=>?_,λi cs j c hi hj=>?_⟩
  .rw[fY]at fe;rw[acM fe]
  .obtain⟨rfl,ir⟩:=Ml hi;have lW:=(Km.1 hj).1;have aC:i*cs.length+j<n*cs.length:=by have:(i+1)*cs.length<=n*cs.length:=aaZ _ ir;rw[abf,ab3]at this;omega
   rw[Fj _ _ _ aC om,aak,adw i,aec,ad5 lW];exact Qe.2 j c hj
 obtain⟨cells,h1,h2,h3⟩:=uZ hE hp hf h0;have hlen:rows.length=n:=by rw[h3,fY];simp
 obtain⟨U',g1,g2,g3⟩:=Mh hM (ty:=e) (cap:=n) (cells:=cells) (elems:=rows) (w':=w.alloc (.cells cells e)) (.inl rfl) (by rw[h2.1,hlen];exact Ym _) om (by unfold maxLen;have:n*1<=n*z.length:=Nat.mul_le_mul_left _ cI;omega) h2.2.1 h2.2.2
 rw[hlen]at g3;refine⟨_,_,_,_,_,U',?_,.inl rfl,hK,g1,g3,g2⟩;have CZ:Instr.fill (λi=>some (i*z.length,z.length)) ((Array.range (n*z.length)).map (zv.cells[· %zv.cells.size]!)) (ps.map λ(i,x)=>(i,a.eval x)).toList=some cells:=by simpa using h1
 rcases abi n with HK|HK
 .subst HK;have e0:∀zz:Array Value,((Array.range (0*z.length)).map (zz[· %zz.size]!))= #[]:=by intro zz;simp
  rw[e0]at CZ;simp only[Instr.buildSlice,Sem.run_bind,run_underlying hu,Result.andThen_ok,fq hs];rw[if_neg om,if_pos aE];simp only[Sem.run_pure,Result.andThen_ok,e0,CZ];simp[newRow]
 .have dh:n*z.length≠0:=Nat.ne_of_gt (Nat.mul_pos HK cI);simp only[Instr.buildSlice,Sem.run_bind,run_underlying hu,Result.andThen_ok,fq hs];rw[if_neg om,if_neg dh];simp only[Sem.run_bind,Lz,Result.andThen_ok,Sem.run_pure,CZ];simp[newRow]
end
end Go.AM
