/- Part 2 of 43: what the law stands on. -/
import Derived.Test.YtojhmadmlnfpcaaGreatDoorK01
import Derived.Laws.BytesArg
import Derived.RangeFuncLeaves
import Derived.RangeFuncRecord
set_option linter.unusedVariables false
set_option linter.unusedSimpArgs false
set_option linter.unnecessarySimpa false
set_option maxRecDepth 100000
set_option maxHeartbeats 64000000
namespace Go.AM
inductive X where
 |t (n:Nat)
 |c (v:CV)
inductive Kd where
 |b
 |i
 |s
inductive Ky where
 |i (k:IntKind)
 |s
 |b
inductive I where
 |aD (x:X)
 |pick (c a b:X)
 |alloc (z:List CC)
 |box (x:X)
 |build (z:List CC) (parts:List (Nat×Nat×X))
 |mh (esz:Nat) (z:List CC) (len:Nat) (parts:List (Nat×X))
 |load (agg:Bool) (n:Nat) (a:X)
 |store (n:Nat) (a x:X)
 |bg (off:Nat) (a:X)
 |On (agg:Bool) (off n:Nat) (a:X)
 |bO (esz:Nat) (a i:X)
 |pA (len esz:Nat) (a i:X)
 |Bv (a i:X)
 |aF (op:BinOp) (x y:X)
 |HW (neg:Bool) (ks:List Kd) (x y:X)
 |beq (neg:Bool) (x y:X)
 |un (op:UnOp) (x:X)
 |conv (k:IntKind) (x:X)
 |TH (x:X)
 |TI (x:X)
 |Kv (x:X)
 |nN (esz:Nat) (x:X) (lo hi mx:Option X)
 |HX (x:X) (lo hi:Option X)
 |fn (f:Nat) (ew:List X)
 |len (k:Nat) (x:X)
 |nO (esz bytes:Nat) (dst src:X)
 |call (f:X) (args:List X)
 |ext (x:X) (i:Nat)
 |aW (x:X)
 |xJ (neg:Bool) (x:X)
 |qz
 |oI (esz bytes:Nat) (z:List CC) (n c:X)
 |Bw (z:RV) (kk:Ky) (m k:X) (ok:Bool)
 |kF (kk:Ky) (m k v:X)
 |jA (mx:Bool) (xs:List X)
 |Xw (m k:X)
 |copy (esz:Nat) (dst src:X)
 |Ta (esz:Nat) (z:List CC) (x:X)
 |Kw (agg:Bool) (n sz:Nat) (x i:X)
 |TJ (x:X)
 |WE (x:X)
 |rU (x:X)
 |WG (x:X)
structure LO where
 dst:Option Nat
 Bf:I
 guard:Option (Nat×Bool)
inductive nq where
 |nil
 |cons (i:Nat) (Kx:Option (List Nat)) (r:nq)
 |xK (a b:nq)
inductive LC where
 |skip
 |ai (ops:List LO)
 |bQ (bW:List LO) (pB:List nq)
 |seq (a b:LC)
 |cond (x:X) (a b:LC)
 |block (id:Nat) (b:LC)
 |loop (b:LC)
 |exit (id:Nat)
 |ret
 |cO (a:LC)
 |xL (x:X) (p:Nat) (a b:LC)
def LC.er:LC->LC
 | .seq a b=>.seq a.er b.er
 | .cond x a b=>.cond x a.er b.er
 | .block id b=>.block id b.er
 | .loop b=>.loop b.er
 | .cO a=>a.er
 | .xL x p a b=>.xL x p a.er b.er
 | .skip=>.skip
 | .ai ops=>.ai ops
 | .bQ a b=>.bQ a b
 | .exit id=>.exit id
 | .ret=>.ret
def LC.qA:LC->Bool
 | .seq a b=>a.qA&&b.qA
 | .cond _ a b=>a.qA&&b.qA
 | .block _ b=>b.qA
 | .loop b=>b.qA
 | .cO a=>a.qA
 | .xL _ _ _ _=>false
 |_=>true
inductive Rv where
 |tmp (t:Nat)
 |cell (agg:Bool) (n:Nat) (t:Nat)
structure LF where
 n:Nat
 lj:List Rv
 code:LC
def LF.er(f:LF):LF:=⟨f.n,f.lj,f.code.er⟩
def df{α:Type}:List α->Nat->Option α
 | [],_=>none
 |x::_,0=>some x
 |_::r,k+1=>df r k
def ba{α:Type}:List α->Nat->α->List α
 | [],_,_=>[]
 |_::r,0,y=>y::r
 |x::r,k+1,y=>x::ba r k y
def iM{α:Type}{β:Sort _}:List α->(List α->β)->β
 | [],k=>k []
 |x::r,k=>iM r fun r'=>k (x::r')
def jR:List CV->Nat->CV
 | [],_=>.ap
 |x::_,0=>x
 |_::r,k+1=>jR r k
def X.ev(e:List CV):X->CV
 | .t n=>jR e n
 | .c v=>v
def ok{α:Type}(o:Option α)(K:α->Prop):Prop:= @Option.rec α (fun _=>Prop) False K o
def bB(t:Bool)(A B:Prop):Prop:= @Bool.rec (fun _=>Prop) B A t
def io:List CC->Nat->Nat->Option (List CC)
 |_,0,0=>some []
 | [],_,_=>none
 |c::cs,0,n+1=>match io cs 0 n with|some l=>some (c::l)|none=>none
 |_::cs,j+1,n=>io cs j n
def fz:List CC->Nat->List CC->Option (List CC)
 |cs,0,[]=>some cs
 | [],_,_=>none
 |_::cs,0,x::xs=>match fz cs 0 xs with|some l=>some (x::l)|none=>none
 |c::cs,j+1,xs=>match fz cs j xs with|some l=>some (c::l)|none=>none
def uZ:List Dt->Nat->Option (List CC)
 |_,0=>some []
 | [],_+1=>none
 |d::ds,n+1=>match uZ ds n with|some l=>some (.aa d::l)|none=>none
def cellsOf:CV->Option (List CC)
 | .rv (.one c)=>some [c]
 | .rv (.agg cs)=>some cs
 |_=>none
def DQ:CV->Option RV
 | .rv r=>some r
 |_=>none
def Kz(agg:Bool)(l:List CC):Option CV:=
 match agg,l with
 |true,l=>some (.rv (.agg l))
 |false,[c]=>some (.rv (.one c))
 |false,_=>none
def iN:List CC->Bool
 | []=>true
 | .gX _ _::_=>false
 |_::r=>iN r
def cy{α:Type}(l:List α):Int->Option α
 | .ofNat k=>df l k
 | .negSucc _=>none
def dU(n:Int)(len:Nat):Option Nat:=
 match n with
 | .ofNat k=>match Nat.blt k len with|true=>some k|false=>none
 | .negSucc _=>none
def ii(a b:Nat):Nat:=match a with|0=>b|a=>a+b
def lenOf(elems:Nat)(lo:Nat)(hi:Option Nat):Nat:=
 match lo,hi with
 |0,none=>elems
 |0,some h=>h
 |lo,none=>elems-lo
 |lo,some h=>h-lo
def cw{α:Type}(l:List α)(lo:Nat)(hi:Option Nat):List α:=
 match lo,hi with
 |0,none=>l
 |0,some h=>l.take h
 |lo,none=>l.drop lo
 |lo,some h=>(l.take h).drop lo
def nP(e:List CV):List CC->List (Nat×Nat×X)->Option (List CC)
 |z,[]=>some z
 |z,(off,sz,x)::r=>match cellsOf (x.ev e)with
  |some cs=>match Nat.beq cs.length sz with
   |true=>match fz z off cs with
    |some z'=>nP e z' r
    |none=>none
   |false=>none
  |none=>none
def tx(e:List CV)(esz:Nat):List (List CC)->List (Nat×X)->Option (List (List CC))
 |z,[]=>some z
 |z,(i,x)::r=>match cellsOf (x.ev e)with
  |some cs=>match Nat.beq cs.length esz&&Nat.blt i z.length with
   |true=>tx e esz (ba z i cs) r
   |false=>none
  |none=>none
def gg{α:Type}:Nat->α->List α
 |0,_=>[]
 |n+1,x=>x::gg n x
def GC(e:List CV):List X->List CV
 | []=>[]
 |x::r=>x.ev e::GC e r
def u0:List CV->Option (List Nat)
 | []=>some []
 | .rv (.one (.ptr id 0))::r=>match u0 r with|some l=>some (id::l)|none=>none
 |_=>none
def uM:List Nat->List CV
 | []=>[]
 |id::r=>.rv (.one (.ptr id 0))::uM r
def iI{α:Type}:List α->List α->List α
 | [],l=>l
 |x::r,l=>x::iI r l
def u3{β:Sort _}(m0:Mem):Mem->List Nat->(Nat->β)->β
 | [],n::_,k=>k n
 |_::r,_::ls,k=>u3 m0 r ls k
 |_,[],k=>k m0.length
def pC{β:Sort _}(m:Mem)(k:Nat->β):β:=
 u3 m m [0,1,2,3,4,5,6,7,8,9,10,11,12,13,14,15,16,17,18,19,20,21,22,23,24,25,26,27,28,29,30,31,32,33,34,35,36,37,38,39,40,41,42,43,44,45,46,47,48,49,50,51,52,53,54,55,56,57,58,59,60,61,62,63] k
def an(k:IntKind)(n:Int):CV:= .rv (.one (.aa (.val (.int k n))))
def ay(b:Bool):CV:= .rv (.one (.aa (.val (.bool b))))
def eM(s:ByteArray):CV:= .rv (.one (.aa (.val (.string s))))
def HY(op:BinOp):Value->Value->Option Value
 | .int k a,.int k' b=>
  match op with
  | .shl=>match decide (b<0)with|false=>some (.int k (k.wrap (a*2^(min b.toNat k.bits))))|true=>none
  | .shr=>match decide (b<0)with|false=>some (.int k (a.fdiv (2^(min b.toNat k.bits))))|true=>none
  |op=>match decide (k=k')with
   |false=>none
   |true=>match op with
    | .add=>some (.int k (k.wrap (a+b)))
    | .sub=>some (.int k (k.wrap (a-b)))
    | .mul=>some (.int k (k.wrap (a*b)))
    | .quo=>match decide (b=0)with|false=>some (.int k (k.wrap (a.tdiv b)))|true=>none
    | .rem=>match decide (b=0)with|false=>some (.int k (a.tmod b))|true=>none
    | .and=>some (.int k (k.wrap (BitVec.ofInt k.bits a&&&BitVec.ofInt k.bits b).toNat))
    | .or=>some (.int k (k.wrap (BitVec.ofInt k.bits a|||BitVec.ofInt k.bits b).toNat))
    | .xor=>some (.int k (k.wrap (BitVec.ofInt k.bits a^^^BitVec.ofInt k.bits b).toNat))
    | .andNot=>some (.int k (k.wrap (BitVec.ofInt k.bits a&&& ~~~ BitVec.ofInt k.bits b).toNat))
    | .eql=>some (.bool (a==b))
    | .neq=>some (.bool (a !=b))
    | .lss=>some (.bool (decide (a<b)))
    | .leq=>some (.bool (decide (a<=b)))
    | .gtr=>some (.bool (decide (a>b)))
    | .geq=>some (.bool (decide (a>=b)))
    |_=>none
 | .string a,.string b=>
  match op with
  | .add=>match decide (((a.size+b.size:Nat):Int)>IntKind.i64.max)with|false=>some (.string (a++b))|true=>none
  | .eql=>some (.bool (a.toList==b.toList))
  | .neq=>some (.bool (!(a.toList==b.toList)))
  | .lss=>some (.bool (Op.bytesLess a.toList b.toList))
  | .leq=>some (.bool (Op.bytesLess a.toList b.toList||a.toList==b.toList))
  | .gtr=>some (.bool (!(Op.bytesLess a.toList b.toList||a.toList==b.toList)))
  | .geq=>some (.bool (!(Op.bytesLess a.toList b.toList)))
  |_=>none
 |_,_=>none
def WH(op:UnOp):Value->Option Value
 | .bool b=>match op with| .not=>some (.bool (!b))|_=>none
 | .int k n=>match op with| .neg=>some (.int k (k.wrap (0-n)))|_=>none
 |_=>none
def Oo:Kd->Value->Value->Option Bool
 | .i,.int k a,.int k' b=>match decide (k=k')with|true=>some (a==b)|false=>none
 | .s,.string a,.string b=>some (a.toList==b.toList)
 | .b,.bool a,.bool b=>some (a==b)
 |_,_,_=>none
def jS:List Kd->List CC->List CC->Option Bool
 | [],[],[]=>some true
 |k::ks,.aa (.val a)::r,.aa (.val b)::s=>match Oo k a b,jS ks r s with
  |some x,some y=>some (x&&y)
  |_,_=>none
 |_,_,_=>none
def ar(P:Program)(f:Nat)(args:List CV)(m:Mem)(K:CV->Mem->Prop):Prop:=
 (∃fn,P.funcs[f]? =some fn/\fn.body.isSome=true/\(fn.name== "runtime.NumGoroutine")=false)/\
 ∀(ρ:bL)(w:World)(vs:List Value),aH ρ m w->vs.length=args.length->(∀(i:Nat)c,args[i]? =some c->∃v,vs[i]? =some v/\b8 ρ w c v)->
  Calls P f vs.toArray w fun e w'=>∃v r m' ρ',e= .returned v/\K r m'/\aH ρ' m' w'/\b8 ρ' w' r v/\Ext ρ m w ρ' m' w'
def fV{β:Sort _}(v:CV)(k:CV->β):β:=
 match v with
 | .ap=>k .ap
 | .undef=>k .undef
 | .rv r=>match r with
  | .one c=>k (.rv (.one c))
  | .agg cs=>iM cs fun cs=>k (.rv (.agg cs))
 | .bF rs=>k (.bF rs)
def qB(a b:Value):Option Bool:=
 match a,b with
 | .int k x,.int k' y=>match decide (k=k')with|true=>some (x==y)|false=>none
 | .string x,.string y=>some (x==y)
 | .bool x,.bool y=>some (x==y)
 |_,_=>none
def qC(k:Value):List ME->Option (Option RV)
 | []=>some none
 |e::es=>match qB k e.key with
  |some true=>some (some e.val)
  |some false=>qC k es
  |none=>none
def DR(k:Value)(v:RV):List ME->Option (List ME)
 | []=>some [⟨k,v⟩]
 |e::es=>match qB k e.key with
  |some true=>some (⟨k,v⟩::es)
  |some false=>match DR k v es with|some l=>some (e::l)|none=>none
  |none=>none
def u4(e:List CV)(m:Mem)(agg:Bool)(n:Nat)(a:CV)(K:CV->Prop):Prop:=
 match a with
 | .rv (.one (.ptr id j))=>ok (df m id) fun bk=>match bk with
  | .var cs=>ok (io cs j n) fun l=>ok (Kz agg l) K
  |_=>False
 | .rv (.one (.mQ id esz i j))=>ok (df m id) fun bk=>match bk with
  | .row nR elems=>bB (Nat.beq esz nR) (ok (df elems i) fun cells=>ok (io cells j n) fun l=>bB (iN l) (ok (Kz agg l) K) False) False
  |_=>False
 | .rv (.one (.qx ds))=>ok (uZ ds n) fun l=>ok (Kz agg l) K
 |_=>False
def fg(m:Mem)(esz:Nat)(v:CV):Option (List (List CC)):=
 match v with
 | .rv (.one (.aa (.sl e elems)))=>match Nat.beq e esz with
  |true=>some (elems.map fun ds=>ds.map .aa)
  |false=>none
 | .rv (.one (.row id e lo hi))=>match df m id with
  |some (.row e2 rows)=>match Nat.beq e esz,Nat.beq e2 esz with
   |true,true=>some (cw rows lo hi)
   |_,_=>none
  |_=>none
 | .rv (.one .aI)=>some []
 |_=>none
def iJ(m:Mem)(v:CV):Mem:=
 match v with
 | .rv (.one (.row id _ _ _))=>ba m id .bh
 |_=>m
def u5(v:CV):Bool:=
 match v with
 | .rv (.one (.row _ _ _ _))=>true
 | .rv (.one .aI)=>true
 |_=>false
def GD(a b:CV):Bool:=
 match a,b with
 | .rv (.one (.row i _ _ _)),.rv (.one (.row j _ _ _))=>!(Nat.beq i j)
 |_,_=>true
def CC.iN:CC->Bool
 | .gX _ _=>false
 |_=>true
def pD:List CC->Bool
 | []=>true
 |c::r=>c.iN&&pD r
def fh:List (List CC)->Bool
 | []=>true
 |c::r=>pD c&&fh r
def cN{α:Type}(l:List α)(h:Nat)(E:List α):List α:=l.take h++(E++l.drop (h+E.length))
def pE(hi:Option Nat)(n:Nat):Nat:=match hi with|some h=>h|none=>n
def pF(v:CV):Option Nat:=
 match v with
 | .rv (.one (.aa (.val (.int _ (.ofNat k)))))=>some k
 |_=>none
def kG(e:List CV)(o:Option X)(d:Nat):Option Nat:=
 match o with
 |none=>some d
 |some x=>pF (x.ev e)
def WI(v:CV):Bool:=
 match v with
 | .rv (.one (.aa (.val (.int _ n))))=>decide (n=0)
 |_=>false
def DT(e:List CV)(o:Option X):Bool:=
 match o with
 |none=>false
 |some x=>WI (x.ev e)
def KA(v:CV):Bool:=
 match v with
 | .rv (.one (.aa (.sl _ _)))=>true
 | .rv (.one (.row _ _ _ _))=>true
 | .rv (.one .aI)=>true
 |_=>false
def tz:List (List CC)->Option (List Int)
 | []=>some []
 | [.aa (.val (.int .u8 n))]::r=>match tz r with|some l=>some (n::l)|none=>none
 |_=>none
def pG(s:ByteArray):List (List CC):=s.data.toList.map fun b=>[.aa (.val (.int .u8 b.toNat))]
def KB(m:Mem)(v:CV):Option (List ME):=
 match v with
 | .rv (.one (.map id))=>match df m id with|some (.mp es)=>some es|_=>none
 | .rv (.one (.aa (.val (.map none))))=>some []
 |_=>none
def xM:Ky->Value->Bool
 | .i k,.int k' _=>decide (k'=k)
 | .s,.string _=>true
 | .b,.bool _=>true
 |_,_=>false
def TK(okF:Bool)(z:RV)(o:Option RV):CV:=
 match okF,o with
 |false,none=>.rv z
 |false,some v=>.rv v
 |true,none=>.bF [z,.one (.aa (.val (.bool false)))]
 |true,some v=>.bF [v,.one (.aa (.val (.bool true)))]
def qD:List ME->Option (List (Value×Value))
 | []=>some []
 |⟨k,.one (.aa (.val v))⟩::r=>match cT k&&cT v with
  |true=>(qD r).map ((k,v):: ·)
  |false=>none
 |_=>none
def step(P:Program)(i:I)(e:List CV)(m:Mem)(K:CV->Mem->Prop):Prop:=
 match i with
 | .aD x=>K (x.ev e) m
 | .pick c a b=>match c.ev e with
  | .rv (.one (.aa (.val (.bool t))))=>bB t (K (a.ev e) m) (K (b.ev e) m)
  |_=>False
 | .alloc z=>pC m fun n=>K (.rv (.one (.ptr n 0))) (iI m [.var z])
 | .box x=>ok (cellsOf (x.ev e)) fun cs=>pC m fun n=>K (.rv (.one (.ptr n 0))) (iI m [.var cs])
 | .build z ps=>ok (nP e z ps) fun cs=>K (.rv (.agg cs)) m
 | .mh esz z len ps=>ok (tx e esz (gg len z) ps) fun rows=>iM rows fun rows=>pC m fun n=>K (.rv (.one (.row n esz 0 none))) (iI m [.row esz rows])
 | .load agg n a=>u4 e m agg n (a.ev e) fun v=>K v m
 | .store n a x=>ok (cellsOf (x.ev e)) fun xs=>bB (Nat.beq xs.length n) (match a.ev e with
  | .rv (.one (.ptr id j))=>ok (df m id) fun bk=>match bk with
   | .var cs=>ok (fz cs j xs) fun eu=>K .undef (ba m id (.var eu))
   |_=>False
  | .rv (.one (.mQ id esz i j))=>ok (df m id) fun bk=>match bk with
   | .row nR elems=>bB (Nat.beq esz nR) (ok (df elems i) fun cells=>bB (iN cells) (ok (fz cells j xs) fun e9=>K .undef (ba m id (.row nR (ba elems i e9)))) False) False
   |_=>False
  |_=>False) False
 | .bg off a=>match a.ev e with
  | .rv (.one (.ptr id j))=>K (.rv (.one (.ptr id (j+off)))) m
  | .rv (.one (.mQ id esz i j))=>K (.rv (.one (.mQ id esz i (j+off)))) m
  | .rv (.one (.qx ds))=>K (.rv (.one (.qx (ds.drop off)))) m
  |_=>False
 | .On agg off n a=>match a.ev e with
  | .rv (.agg cs)=>ok (io cs off n) fun l=>ok (Kz agg l) fun v=>K v m
  |_=>False
 | .bO esz a i=>match i.ev e with
  | .rv (.one (.aa (.val (.int _ n))))=>match a.ev e with
   | .rv (.one (.aa (.sl nR elems)))=>bB (Nat.beq esz nR) (ok (cy elems n) fun ds=>K (.rv (.one (.qx ds))) m) False
   | .rv (.one (.row id nR lo hi))=>ok (df m id) fun bk=>match bk with
    | .row xN elems=>bB (Nat.beq esz nR) (bB (Nat.beq esz xN) (ok (dU n (lenOf elems.length lo hi)) fun k=>K (.rv (.one (.mQ id esz (ii lo k) 0))) m) False) False
    |_=>False
   |_=>False
  |_=>False
 | .pA len esz a i=>match i.ev e with
  | .rv (.one (.aa (.val (.int _ n))))=>match a.ev e with
   | .rv (.one (.ptr id j))=>ok (dU n len) fun k=>K (.rv (.one (.ptr id (j+k*esz)))) m
   | .rv (.one (.mQ id s i' j))=>ok (dU n len) fun k=>K (.rv (.one (.mQ id s i' (j+k*esz)))) m
   | .rv (.one (.qx ds))=>ok (dU n len) fun k=>K (.rv (.one (.qx (ds.drop (k*esz))))) m
   |_=>False
  |_=>False
 | .Bv a i=>match i.ev e with
  | .rv (.one (.aa (.val (.int _ n))))=>match a.ev e with
   | .rv (.one (.aa (.val (.string s))))=>ok (cy s.data.toList n) fun b=>K (an .u8 b.toNat) m
   |_=>False
  |_=>False
 | .aF op x y=>match x.ev e with
  | .rv (.one (.aa (.val a)))=>match y.ev e with
   | .rv (.one (.aa (.val b)))=>ok (HY op a b) fun v=>K (.rv (.one (.aa (.val v)))) m
   |_=>False
  |_=>False
 | .HW neg n x y=>match x.ev e with
  | .rv (.agg cs)=>match y.ev e with
   | .rv (.agg ds)=>ok (jS n cs ds) fun b=>K (ay (match neg with|true=>!b|false=>b)) m
   |_=>False
  |_=>False
 | .beq neg x y=>match x.ev e with
  | .rv (.one (.aa (.val (.bool a))))=>match y.ev e with
   | .rv (.one (.aa (.val (.bool b))))=>K (ay (match neg with|true=>!(a==b)|false=>a==b)) m
   |_=>False
  |_=>False
 | .un op x=>match x.ev e with
  | .rv (.one (.aa (.val a)))=>ok (WH op a) fun v=>K (.rv (.one (.aa (.val v)))) m
  |_=>False
 | .conv k x=>match x.ev e with
  | .rv (.one (.aa (.val (.int _ n))))=>K (an k (k.wrap n)) m
  |_=>False
 | .TH x=>match x.ev e with
  | .rv (.one (.aa (.val (.string s))))=>K (eM s) m
  |_=>False
 | .fn f ew=>ok (u0 (GC e ew)) fun jK=>K (.rv (.one (.fn f jK))) m
 | .len 1 x=>match x.ev e with
  | .rv (.one (.aa (.sl _ elems)))=>K (an .i64 (elems.length:Int)) m
  | .rv (.one (.row id _ lo hi))=>ok (df m id) fun bk=>match bk with
   | .row _ elems=>K (an .i64 (lenOf elems.length lo hi:Int)) m
   |_=>False
  | .rv (.one .aI)=>K (an .i64 0) m
  |_=>False
 | .len 0 x=>match x.ev e with
  | .rv (.one (.aa (.val (.string s))))=>K (an .i64 (s.size:Int)) m
  |_=>False
 | .len 2 x=>match x.ev e with
  | .rv (.one (.map id))=>ok (df m id) fun bk=>match bk with
   | .mp es=>K (an .i64 (es.length:Int)) m
   |_=>False
  |_=>False
 | .call f args=>match f.ev e with
  | .rv (.one (.fn f ew))=>ar P f (iI (GC e args) (uM ew)) m K
  |_=>False
 | .ext x i=>match x.ev e with
  | .bF rs=>ok (df rs i) fun r=>K (.rv r) m
  |_=>False
 | .nO esz bytes dst src=>bB (u5 (dst.ev e)&&GD (dst.ev e) (src.ev e)) (ok (fg m esz (dst.ev e)) fun E1=>ok (fg m esz (src.ev e)) fun E2=>
   (E1.length+E2.length)*bytes<=140737488355328/\pC m fun n=>K (.rv (.one (.row n esz 0 none))) (iI (iJ (iJ m (dst.ev e)) (src.ev e)) [.row esz (E1++E2)]))
   (match dst.ev e with
   | .rv (.one (.row id e1 lo (some h)))=>ok (df m id) fun bk=>match bk with
    | .row e2 rows=>ok (fg m esz (src.ev e)) fun E2=>bB (Nat.beq lo 0&&(Nat.beq e1 esz&&(Nat.beq e2 esz&&(Nat.ble 1 rows.length&&(Nat.ble (h+E2.length) rows.length&&fh E2)))))
     (rows.length*bytes<=140737488355328/\K (.rv (.one (.row id esz 0 (some (h+E2.length))))) (ba m id (.row esz (cN rows h E2)))) False
    |_=>False
   |_=>False)
 | .xJ neg x=>match x.ev e with
  | .rv (.one (.aa (.sl _ elems)))=>bB (Nat.beq elems.length 0) (K (ay true) m/\K (ay false) m) (K (ay neg) m)
  | .rv (.one (.row id _ lo hi))=>ok (df m id) fun bk=>match bk with
   | .row _ elems=>bB (Nat.beq (lenOf elems.length lo hi) 0) (K (ay true) m/\K (ay false) m) (K (ay neg) m)
   |_=>False
  | .rv (.one .aI)=>K (ay true) m/\K (ay false) m
  |_=>False
 | .nN esz x lo hi (some mx)=>bB (lo.isNone&&DT e hi&&WI (mx.ev e)&&KA (x.ev e)) (K (.rv (.one .aI)) m)
   (ok (kG e lo 0) fun l=>ok (fg m esz (x.ev e)) fun E=>ok (kG e hi E.length) fun h=>ok (pF (mx.ev e)) fun TL=>bB (lo.isSome&&(hi.isSome&&(Nat.ble l h&&(Nat.ble h TL&&Nat.ble TL E.length)))) (K .ap m) False)
 | .nN esz x lo hi none=>ok (kG e lo 0) fun l=>match x.ev e with
  | .rv (.one (.aa (.sl e2 elems)))=>bB (Nat.beq e2 esz) (ok (kG e hi elems.length) fun h=>bB (Nat.ble l h&&Nat.ble h elems.length) (K (.rv (.one (.aa (.sl esz ((elems.take h).drop l))))) m) False) False
  | .rv (.one (.row id e2 DU uN))=>ok (df m id) fun bk=>match bk with
   | .row _ elems=>bB (Nat.beq e2 esz) (ok (kG e hi (lenOf elems.length DU uN)) fun h=>bB (Nat.ble l h&&Nat.ble h (elems.length-DU)) (K (.rv (.one (.row id esz (ii DU l) (some (ii DU h))))) m) False) False
   |_=>False
  |_=>False
 | .HX x lo hi=>match x.ev e with
  | .rv (.one (.aa (.val (.string s))))=>ok (kG e lo 0) fun l=>ok (kG e hi s.size) fun h=>bB (Nat.ble l h&&Nat.ble h s.size) (K (eM (s.extract l h)) m) False
  |_=>False
 | .aW x=>match x.ev e with
  | .rv (.one (.ptr id j))=>K (.rv (.one (.ptr id j))) m
  | .rv (.one (.mQ id s i j))=>K (.rv (.one (.mQ id s i j))) m
  | .rv (.one (.qx ds))=>K (.rv (.one (.qx ds))) m
  |_=>False
 | .Kv x=>ok (fg m 1 (x.ev e)) fun E=>ok (tz E) fun xs=>K (eM (strOfNums xs)) m
 | .TI x=>match x.ev e with
  | .rv (.one (.aa (.val (.string s))))=>s.size<=140737488355328/\pC m fun n=>K (.rv (.one (.row n 1 0 none))) (iI m [.row 1 (pG s)])
  |_=>False
 | .jA mx [x,y]=>match x.ev e with
  | .rv (.one (.aa (.val (.int k a))))=>match y.ev e with
   | .rv (.one (.aa (.val (.int _ b))))=>match mx with
    |true=>K (an k (if b>a then b else a)) m
    |false=>K (an k (if b<a then b else a)) m
   |_=>False
  |_=>False
 | .TJ x=>match x.ev e with
  | .rv (.one (.row id e1 lo hi))=>ok (df m id) fun bk=>match bk with
   | .row esz rows=>bB (Nat.beq esz 1&&Nat.blt lo rows.length) (K (.rv (.one (.row id e1 lo hi))) m) False
   |_=>False
  |_=>False
 | .Ta esz z x=>match x.ev e with
  | .rv (.one (.row id e1 lo hi))=>ok (df m id) fun bk=>match bk with
   | .row e2 rows=>bB (Nat.beq e1 esz&&(Nat.beq e2 esz&&Nat.ble (pE hi rows.length) rows.length))
     (bB (Nat.blt lo (pE hi rows.length)) (K (.bF []) (ba m id (.row esz (cN rows lo (gg (pE hi rows.length-lo) z))))) (K (.bF []) m)) False
   |_=>False
  | .rv (.one .aI)=>K (.bF []) m
  |_=>False
 | .copy esz d s=>ok (fg m esz (s.ev e)) fun E=>bB (Nat.beq E.length 0) (bB (KA (d.ev e)) (K (an .i64 0) m) False)
   (match d.ev e with
   | .rv (.one (.row id e1 lo hi))=>ok (df m id) fun bk=>match bk with
    | .row e2 rows=>bB (Nat.beq e1 esz&&(Nat.beq e2 esz&&(Nat.ble (pE hi rows.length) rows.length&&(Nat.ble (lo+E.length) (pE hi rows.length)&&fh E)))) (K (an .i64 (E.length:Int)) (ba m id (.row esz (cN rows lo E)))) False
    |_=>False
   |_=>False)
 | .Kw agg n sz x i=>match i.ev e with
  | .rv (.one (.aa (.val (.int _ j))))=>match x.ev e with
   | .rv (.agg cs)=>ok (dU j n) fun k=>ok (io cs (k*sz) sz) fun l=>ok (Kz agg l) fun v=>K v m
   |_=>False
  |_=>False
 | .WE x=>match x.ev e with
  | .rv (.one (.map id))=>ok (df m id) fun bk=>match bk with
   | .mp es=>ok (qD es) fun l=>pC m fun n=>K (.rv (.one (.ptr n 0))) (iI (ba m id .bh) [.it [] l])
   |_=>False
  |_=>False
 | .rU x=>match x.ev e with
  | .rv (.one (.ptr id 0))=>ok (df m id) fun bk=>match bk with
   | .it _ left=>(left=[]->K (.bF [.one (.aa (.val (.bool false)))]) m)/\∀(i:Nat)(k v:Value)(Qh:List (Value×Value)),left[i]? =some (k,v)->Qh=left.eraseIdx i->K (.bF [.one (.aa (.val (.bool true))),.one (.aa (.val k)),.one (.aa (.val v))]) (ba m id (.it [(k,v)] Qh))
   |_=>False
  |_=>False
 | .WG x=>match x.ev e with
  | .rv (.one (.ptr id 0))=>ok (df m id) fun bk=>match bk with
   | .it (p::_) _=>K (.bF [.one (.aa (.val p.1)),.one (.aa (.val p.2))]) m
   |_=>False
  |_=>False
 | .qz=>pC m fun n=>K (.rv (.one (.map n))) (iI m [.mp []])
 | .oI esz bytes z nx cx=>ok (pF (nx.ev e)) fun l=>ok (pF (cx.ev e)) fun c=>bB (Nat.beq l c) (c*bytes<=140737488355328/\pC m fun n=>K (.rv (.one (.row n esz 0 none))) (iI m [.row esz (gg l z)])) False
 | .Bw z kk mx kx okF=>match kx.ev e with
  | .rv (.one (.aa (.val kv)))=>bB (xM kk kv) (ok (KB m (mx.ev e)) fun es=>ok (qC kv es) fun o=>K (TK okF z o) m) False
  |_=>False
 | .kF kk mx kx vx=>match mx.ev e with
  | .rv (.one (.map id))=>match kx.ev e with
   | .rv (.one (.aa (.val kv)))=>bB (xM kk kv) (ok (df m id) fun bk=>match bk with
    | .mp es=>ok (DQ (vx.ev e)) fun v=>ok (DR kv v es) fun cV=>K .undef (ba m id (.mp cV))
    |_=>False) False
   |_=>False
  |_=>False
 |_=>False
def u6:Value->Option CC
 | .slice none 0 0=>some .aI
 |v=>match cT v with|true=>some (.aa (.val v))|false=>none
def bo:Operand->Option X
 | .tmp t=>some (.t t)
 | .const v=>(u6 v).map fun c=>.c (.rv (.one c))
 | .func f=>some (.c (.rv (.one (.fn f []))))
 | .global _=>none
def tC:List Operand->Option (List X)
 | []=>some []
 |x::r=>do some ((<-bo x)::(<-tC r))
def gY:Option Operand->Option (Option X)
 |none=>some none
 |some x=>do some (some (<-bo x))
def eN(P:Program)(t:TypeId):Option Nat:=(P.info? t).map (·.size)
def eB(P:Program)(t:TypeId):Option Bool:=(P.underlying t).map fun| .struct _| .array _ _=>true|_=>false
def mi:List Value->Option (List CC)
 | []=>some []
 |v::r=>do some ((<-u6 v)::(<-mi r))
def d8(P:Program)(t:TypeId):Option (List CC):=do mi (<-(<-P.info? t).zero).cells.toList
def mj(P:Program)(fs:Array Field):List (Nat×Operand)->Option (List (Nat×Nat×X))
 | []=>some []
 |(i,x)::r=>do
  let f<-fs[i]?
  some ((f.offset,<-eN P f.type,<-bo x)::(<-mj P fs r))
def ki(sz:Nat):List (Nat×Operand)->Option (List (Nat×Nat×X))
 | []=>some []
 |(i,x)::r=>do some ((i*sz,sz,<-bo x)::(<-ki sz r))
def kj:List (Nat×Operand)->Option (List (Nat×X))
 | []=>some []
 |(i,x)::r=>do some ((i,<-bo x)::(<-kj r))
def Bx(g:TypeId->Option (List Kd)):List Field->Nat->Option (List Kd)
 | [],_=>some []
 |f::r,off=>if f.name≠ "_" /\f.offset=off then
   match g f.type with
   |some ks=>match Bx g r (off+ks.length)with
    |some ls=>some (ks++ls)
    |none=>none
   |none=>none
  else none
def flatK(P:Program):Nat->TypeId->Option (List Kd)
 |0,_=>none
 |d+1,t=>match P.underlying t with
  |some .bool=>if eN P t=some 1 then some [.b]else none
  |some (.int _)=>if eN P t=some 1 then some [.i]else none
  |some .string=>if eN P t=some 1 then some [.s]else none
  |some (.struct fs)=>if P.stoodInHeld t=false then
    match Bx (flatK P d) fs.toList 0 with
    |some ks=>if eN P t=some ks.length then some ks else none
    |none=>none
   else none
  |_=>none
def HZ(P:Program)(t:TypeId):Option Ky:=
 match P.underlying t with
 |some (.int k)=>some (.i k)
 |some .string=>some .s
 |some .bool=>some .b
 |_=>none
def GF(P:Program)(t:TypeId):Option RV:=do
 match (<-(<-P.info? t).zero)with
 | .agg cs=>do some (.agg (<-mi cs.toList))
 |v=>do some (.one (<-u6 v))
def u7(P:Program)(o:Oper):Option I:=
 match o.op with
 | .move x| .assign x=>do some (.aD (<-bo x))
 | .pick c a b=>do some (.pick (<-bo c) (<-bo a) (<-bo b))
 | .alloc t=>do some (.alloc (<-d8 P t))
 | .box _ x=>do some (.box (<-bo x))
 | .build t ps=>do
  let z<-d8 P t
  match P.underlying t with
  |some (.struct fs)=>if(fs.toList.mapM (fun f=>(P.info? f.type).map fun i=>(f.offset,i.size))).isSome then some (.build z (<-mj P fs ps.toList))else none
  |some (.array _ e)=>some (.build z (<-ki (<-eN P e) ps.toList))
  |_=>none
 | .buildSlice t n ps=>do
  match P.underlying t with
  |some (.slice e)=>
   let z<-d8 P e
   if(<-eN P e)=z.length/\0<z.length/\n*z.length<=2^24 then some (.mh z.length z n (<-kj ps.toList))else none
  |_=>none
 | .load t a=>do some (.load (<-eB P t) (<-eN P t) (<-bo a))
 | .store t a x=>do
  let n<-eN P t
  if n=0 then none else some (.store n (<-bo a) (<-bo x))
 | .fieldAddr t a k=>do
  match P.underlying t with
  |some (.struct fs)=>
   let f<-fs[k]?
   if(<-eN P f.type)=0 then none else some (.bg f.offset (<-bo a))
  |_=>none
 | .field t a k=>do
  match P.underlying t with
  |some (.struct fs)=>
   let f<-fs[k]?
   some (.On (<-eB P f.type) f.offset (<-eN P f.type) (<-bo a))
  |_=>none
 | .indexAddr t a i=>do
  match P.underlying t with
  |some (.slice e)=>some (.bO (<-eN P e) (<-bo a) (<-bo i))
  |some (.array n e)=>some (.pA n (<-eN P e) (<-bo a) (<-bo i))
  |_=>none
 | .index t a i=>do
  match P.underlying t with
  |some .string=>some (.Bv (<-bo a) (<-bo i))
  |some (.array n e)=>some (.Kw (<-eB P e) n (<-eN P e) (<-bo a) (<-bo i))
  |_=>none
 | .binOp op t x y _=>do
  match P.underlying t with
  |some (.int _)|some .string=>some (.aF op (<-bo x) (<-bo y))
  |some (.slice _)=>match y,op with
   | .const (.slice none 0 0),.eql=>some (.xJ false (<-bo x))
   | .const (.slice none 0 0),.neq=>some (.xJ true (<-bo x))
   |_,_=>none
  |some .bool=>match op with
   | .eql=>some (.beq false (<-bo x) (<-bo y))
   | .neq=>some (.beq true (<-bo x) (<-bo y))
   |_=>none
  |some (.array n e)=>match P.eqGuardType P.depth t,P.underlying e,eN P e,op with
   |false,some (.int _),some 1,.eql=>some (.HW false (gg n .i) (<-bo x) (<-bo y))
   |false,some (.int _),some 1,.neq=>some (.HW true (gg n .i) (<-bo x) (<-bo y))
   |_,_,_,_=>none
  |some (.struct _)=>match P.eqGuardType P.depth t,flatK P 5 t,op with
   |false,some ks,.eql=>some (.HW false ks (<-bo x) (<-bo y))
   |false,some ks,.neq=>some (.HW true ks (<-bo x) (<-bo y))
   |_,_,_=>none
  |_=>none
 | .unOp op _ x=>do some (.un op (<-bo x))
 | .convert s d x=>do
  match P.underlying s,P.underlying d with
  |some (.int _),some (.int k)=>some (.conv k (<-bo x))
  |some .string,some .string=>some (.TH (<-bo x))
  |some (.slice e),some .string=>match P.underlying e with
   |some (.int .u8)=>some (.Kv (<-bo x))
   |_=>none
  |some .string,some (.slice e)=>match P.underlying e with
   |some (.int .u8)=>some (.TI (<-bo x))
   |_=>none
  |some (.slice _),some (.slice e)=>match s==d,P.underlying e with
   |true,some (.int .u8)=>some (.TJ (<-bo x))
   |_,_=>none
  |_,_=>none
 | .makeMap t r=>match r,P.underlying t with
  |none,_=>some .qz
  |some (.const (.int _ _)),some (.map _ _)=>some .qz
  |_,_=>none
 | .makeSlice t l c=>do
  match P.underlying t with
  |some (.slice e)=>
   let i<-P.info? e;let z<-d8 P e
   if i.size=z.length/\0<z.length/\0<i.bytes then some (.oI i.size i.bytes z (<-bo l) (<-bo c))else none
  |_=>none
 | .lookup t x k b=>do
  match P.underlying t with
  |some (.map kt vt)=>some (.Bw (<-GF P vt) (<-HZ P kt) (<-bo x) (<-bo k) b)
  |_=>none
 | .mapUpdate t x k v| .insert t x k v=>do
  match P.underlying t with
  |some (.map kt _)=>some (.kF (<-HZ P kt) (<-bo x) (<-bo k) (<-bo v))
  |_=>none
 | .makeFunc (.func f) fst ew=>if fst.size=0 then do some (.fn f (<-tC ew.toList))else none
 | .extract x i=>do some (.ext (<-bo x) i)
 | .nilCheck x=>do some (.aW (<-bo x))
 | .range t x=>match P.underlying t with
  |some (.map _ _)=>do some (.WE (<-bo x))
  |_=>none
 | .next it false=>do some (.rU (<-bo it))
 | .entry it=>do some (.WG (<-bo it))
 | .slice t x lo hi mx=>do
  match P.underlying t with
  |some (.slice e)=>some (.nN (<-eN P e) (<-bo x) (<-gY lo) (<-gY hi) (<-gY mx))
  |some .string=>match mx with
   |none=>some (.HX (<-bo x) (<-gY lo) (<-gY hi))
   |some _=>none
  |_=>none
 | .call {callee:= .builtin .len,args,argTypes}=>do
  match args.toList,argTypes.toList with
  | [x],[t]=>match P.underlying t with
   |some .string=>some (.len 0 (<-bo x))
   |some (.slice _)=>some (.len 1 (<-bo x))
   |some (.map _ _)=>some (.len 2 (<-bo x))
   |_=>none
  |_,_=>none
 | .call {callee:= .builtin .append,args,argTypes}=>do
  match args.toList,argTypes.toList with
  | [x,y],[t,t2]=>match P.underlying t,P.underlying t2 with
   |some (.slice e),some (.slice e2)=>
    let i<-P.info? e;let z<-d8 P e
    if i.size=z.length/\0<z.length/\0<i.bytes then some (.nO i.size i.bytes (<-bo x) (<-bo y))else none
   |_,_=>none
  |_,_=>none
 | .call {callee:= .builtin .max,args,..}=>do
  match args.toList with
  | [x,y]=>some (.jA true [<-bo x,<-bo y])
  |_=>none
 | .call {callee:= .builtin .min,args,..}=>do
  match args.toList with
  | [x,y]=>some (.jA false [<-bo x,<-bo y])
  |_=>none
 | .call {callee:= .builtin .clear,args,argTypes}=>do
  match args.toList,argTypes.toList with
  | [x],[t]=>match P.underlying t with
   |some (.slice e)=>
    let i<-P.info? e;let z<-d8 P e
    if i.size=z.length then some (.Ta i.size z (<-bo x))else none
   |_=>none
  |_,_=>none
 | .call {callee:= .builtin .copy,args,argTypes}=>do
  match args.toList,argTypes.toList with
  | [x,y],[t,_]=>match P.underlying t with
   |some (.slice e)=>
    let i<-P.info? e;let z<-d8 P e
    if i.size=z.length then some (.copy i.size (<-bo x) (<-bo y))else none
   |_=>none
  |_,_=>none
 | .call {callee:= .value f,args,..}=>do some (.call (<-bo f) (<-tC args.toList))
 |_=>none
def KC:I:= .jA true []
def rV(P:Program)(o:Oper):Option I:=
 match u7 P o with
 |some i=>some i
 |none=>match o.op with
  | .defer _=>none
  |_=>some KC
theorem Oq(P:Program){e:List CV}{m:Mem}{K:CV->Mem->Prop}:step P KC e m K=False:=rfl
theorem DV{P:Program}{o:Oper}{i:I}(h:rV P o=some i):u7 P o=some i\/i=KC:=by
 unfold rV at h;split at h
 .rename_i j hj;exact .inl (by rw[hj];exact h)
 .split at h
  .cases h
  .cases h;exact .inr rfl
def KD(ops:Array Oper):Option (Nat×Bool)->Option (Option (Nat×Bool))
 |none=>some none
 |some (j,b)=>do some (some (<-(<-ops[j]?).dst,b))
def u9(P:Program)(ops:Array Oper)(o:Oper):Option LO:=do some ⟨o.dst,<-rV P o,<-KD ops o.guard⟩
def ml(P:Program)(ops:Array Oper):List Oper->Option (List LO)
 | []=>some []
 |o::r=>do some ((<-u9 P ops o)::(<-ml P ops r))
def I.xs:I->List X
 | .aD x=>[x]
 | .pick c a b=>[c,a,b]
 | .alloc _=>[]
 | .box x=>[x]
 | .build _ ps=>ps.map fun p=>p.2.2
 | .mh _ _ _ ps=>ps.map fun p=>p.2
 | .load _ _ a=>[a]
 | .store _ a x=>[a,x]
 | .bg _ a=>[a]
 | .On _ _ _ a=>[a]
 | .bO _ a i=>[a,i]
 | .pA _ _ a i=>[a,i]
 | .Bv a i=>[a,i]
 | .aF _ x y=>[x,y]
 | .HW _ _ x y=>[x,y]
 | .beq _ x y=>[x,y]
 | .un _ x=>[x]
 | .conv _ x=>[x]
 | .TH x=>[x]
 | .TI x=>[x]
 | .Kv x=>[x]
 | .nN _ x lo hi mx=>x::(lo.toList++hi.toList++mx.toList)
 | .HX x lo hi=>x::(lo.toList++hi.toList)
 | .fn _ ew=>ew
 | .len _ x=>[x]
 | .nO _ _ d s=>[d,s]
 | .call f args=>f::args
 | .ext x _=>[x]
 | .aW x=>[x]
 | .xJ _ x=>[x]
 | .qz=>[]
 | .oI _ _ _ n c=>[n,c]
 | .Bw _ _ m k _=>[m,k]
 | .kF _ m k v=>[m,k,v]
 | .jA _ xs=>xs
 | .Xw m k=>[m,k]
 | .copy _ d s=>[d,s]
 | .Ta _ _ x=>[x]
 | .Kw _ _ _ x i=>[x,i]
 | .TJ x=>[x]
 | .WE x=>[x]
 | .rU x=>[x]
 | .WG x=>[x]
def lq:List X->List Nat
 | []=>[]
 | .t n::r=>n::lq r
 | .c _::r=>lq r
def LO.looks(lo:LO):List Nat:=
 match lo.guard with
 |none=>lq lo.Bf.xs
 |some (s,_)=>s::lq lo.Bf.xs
def yl:I->Bool
 | .aD _| .pick .. | .build .. | .bg .. | .On .. | .Kw .. | .pA .. | .Bv .. | .aF .. | .HW .. | .beq .. | .un .. | .conv .. | .TH .. | .fn .. | .ext .. | .aW _| .HX .. =>true
 |_=>false
def rW(i:I):Bool:=yl i||match i with| .load .. | .bO .. | .len .. | .nN .. =>true|_=>false
def zt(dd:List Nat)(l:List Nat):Nat:=l.foldr (fun j m=>Nat.lor m (Nat.lor (Nat.shiftLeft 1 j) ((df dd j).getD 0))) 0
def DW(gC:List (List Nat))(dd:List Nat):List Nat:=gC.map (zt dd)
def zu(gC:List (List Nat)):Nat->List Nat->List Nat
 |0,dd=>dd
 |k+1,dd=>let a:=DW gC dd;match a==dd with|true=>dd|false=>zu gC k a
def aN(n:Nat)(gC:List (List Nat)):List Nat:=zu gC n []
def mR(ms:List Nat)(i j:Nat):Bool:=Nat.testBit ((df ms i).getD 0) j
def dj(bW:List LO)(t j:Nat):Bool:=match df bW j with|some lo=>(match lo.dst with|some d=>Nat.beq d t|none=>false)|none=>false
def nS(bW:List LO)(j:Nat):List Nat:=match df bW j with|some lo=>lo.looks|none=>[]
def H0(bW:List LO)(j:Nat):Option Nat:=match df bW j with|some lo=>lo.dst|none=>none
def DX(bW:List LO)(j:Nat):Bool:=match df bW j with|some lo=>yl lo.Bf|none=>false
def lu(bW:List LO)(j:Nat):Bool:=match df bW j with|some lo=>rW lo.Bf|none=>false
def nq.hd:nq->List Nat
 | .nil=>[]
 | .cons i _ _=>[i]
 | .xK a b=>a.hd++b.hd
def GG(bW:List LO)(ms:List Nat)(n:Nat)(bf:List Nat)(i:Nat):Bool:=
 Nat.blt i n&& !(bf.contains i)&&
  ((nS bW i).all fun t=>bf.all fun j=>!(dj bW t j)||mR ms i j)&&
  (match H0 bW i with|none=>true|some t=>bf.all fun j=>!(dj bW t j)&&(!((nS bW j).contains t)||mR ms i j))
def Rn(ms:List Nat)(n:Nat)(bf hd:List Nat):Bool:=(List.range n).all fun i=>bf.contains i||(hd.contains i||hd.any fun f=>mR ms i f)
def dY(bW:List LO)(ms:List Nat)(n:Nat):Bool->List Nat->nq->Bool
 |c,bf,.nil=>c&&(List.range n).all fun i=>bf.contains i
 |c,bf,.cons i none r=>c&&(GG bW ms n bf i&&(lu bW i&&dY bW ms n true (i::bf) r))
 |c,bf,.cons i (some l) r=>(!c||Rn ms n bf [i])&&(GG bW ms n bf i&&((bf.all fun j=>!(lu bW j)||(mR ms i j||(DX bW j||l.contains j)))&&dY bW ms n true (i::bf) r))
 |c,bf,.xK x y=>(!c||Rn ms n bf (x.hd++y.hd))&&(dY bW ms n false bf x&&dY bW ms n false bf y)
def ym(gC:List (List Nat))(n:Nat):List Nat->List Nat->Bool
 |bf,[]=>(List.range n).all fun i=>bf.contains i
 |bf,i::r=>Nat.blt i n&&((df gC i).getD []).all (fun j=>bf.contains j)&&ym gC n (i::bf) r
def TM(gC:List (List Nat))(n:Nat):Nat->List Nat->List Nat
 |0,_=>[]
 |k+1,bf=>match (List.range n).find? fun i=>!(bf.contains i)&&((df gC i).getD []).all (fun j=>bf.contains j)with
  |some i=>i::TM gC n k (i::bf)
  |none=>[]
def qE(bW:List LO)(gC:List (List Nat))(sched:nq):Bool:=
 ym gC bW.length [] (TM gC bW.length bW.length [])&&dY bW (aN bW.length gC) bW.length true [] sched
def KE(bW:List LO)(ms:List Nat)(By:List Nat)(done:List Nat)(i:Nat):Bool:=
 !(done.contains i)&&lu bW i&&By.all fun f=>done.contains f|| !(mR ms i f)
def Qi:List Nat->nq->nq
 | [],r=>r
 |i::l,r=>.cons i none (Qi l r)
def TN:List nq->nq
 | []=>.nil
 | [x]=>x
 |x::r=>.xK x (TN r)
def GH(bW:List LO)(ms:List Nat)(all By:List Nat):Nat->List Nat->nq
 |0,_=>.nil
 |k+1,done=>
  let WJ:=all.filter (KE bW ms By done);let Qj:=WJ.reverse++done;let left:=By.filter fun f=>!(done.contains f)
  Qi WJ (TN ((left.filter fun f=>left.all fun g=>Nat.beq g f|| !(mR ms f g)).map fun f=>
   .cons f (some (Qj.filter fun j=>lu bW j&& !(mR ms f j||DX bW j))) (GH bW ms all By k (f::Qj))))
def GI(bW:List LO)(gC:List (List Nat)):nq:=
 let ms:=aN bW.length gC;let all:=List.range bW.length;let By:=all.filter fun i=>!(lu bW i)
 GH bW ms all By (By.length+1) []
def kH(md:Region.Mode)(ops:Array Oper):List (List Nat):=ops.toList.map fun o=>(o.after.toList.filter (Region.binds md)).map (·.on)
def uO(P:Program)(ops:Array Oper):List Region.Mode:=if(P.follows .mixedOrders|| !(Region.departs ops))=true then [.any]else [.text,.gc]
def va(P:Program)(bW:List LO)(ops:Array Oper):Option (List nq):=
 let ms:=uO P ops;let s:=GI bW (kH .any ops)
 if(ms.all fun md=>qE bW (kH md ops) s)=true then some [s]
 else
  let ss:=ms.map fun md=>GI bW (kH md ops)
  if(ms.all fun md=>ss.any fun s=>qE bW (kH md ops) s)=true then some ss else none
def dX(P:Program):Code->Option LC
 | .skip=>some .skip
 | .region _ ops true=>do
  let bW<-ml P ops ops.toList
  some (.bQ bW (<-va P bW ops))
 | .region _ ops false=>do some (.ai (<-ml P ops ops.toList))
 | .seq a b=>do some (.seq (<-dX P a) (<-dX P b))
 | .cond x a b=>do some (.cond (<-bo x) (<-dX P a) (<-dX P b))
 | .block id b=>do some (.block id (<-dX P b))
 | .loop b=>do some (.loop (<-dX P b))
 | .exit id=>some (.exit id)
 | .ret=>some .ret
 | .rangeFunc f ps a c=>do
  match ps.toList with
  | [p]=>
   let la<-dX P a;let lc<-dX P c
   if(la.qA&&lc.qA)=true then some (.xL (<-bo f) p la lc)else none
  |_=>none
 |_=>none
def nT(P:Program):List ResultVar->Option (List Rv)
 | []=>some []
 | .tmp t::r=>do some (.tmp t::(<-nT P r))
 | .cell a t::r=>do some (.cell (<-eB P t) (<-eN P t) a::(<-nT P r))
def bs(P:Program)(fn:Func):Option LF:=do
 some ⟨fn.ntmps,<-nT P fn.results.toList,<-dX P (<-fn.body)⟩
inductive Ex where
 |normal
 |exit (id:Nat)
 |ret
def put(d:Option Nat)(v:CV)(e:List CV)(K:List CV->Prop):Prop:=
 match d with
 |none=>K e
 |some d=>fV v fun v=>iM (ba e d v) K
def GJ(P:Program)(o:LO)(ih:(List CV->Mem->Prop)->List CV->Mem->Prop)(K:List CV->Mem->Prop)(e:List CV)(m:Mem):Prop:=
  match o.guard with
  |none=>step P o.Bf e m fun v m'=>iM m' fun m'=>put o.dst v e fun e'=>ih K e' m'
  |some (s,jB)=>
   match jR e s with
   | .undef=>put o.dst .undef e fun e'=>ih K e' m
   | .rv (.one (.aa (.val (.bool t))))=>bB t
    (iM (ba e s (ay true)) fun e=>match jB with
     |true=>step P o.Bf e m fun v m'=>iM m' fun m'=>put o.dst v e fun e'=>ih K e' m'
     |false=>put o.dst .undef e fun e'=>ih K e' m)
    (iM (ba e s (ay false)) fun e=>match jB with
     |false=>step P o.Bf e m fun v m'=>iM m' fun m'=>put o.dst v e fun e'=>ih K e' m'
     |true=>put o.dst .undef e fun e'=>ih K e' m)
   |_=>False
def H2(P:Program)(l:List LO):(List CV->Mem->Prop)->List CV->Mem->Prop:=
 @List.rec LO (fun _=>(List CV->Mem->Prop)->List CV->Mem->Prop) (fun K e m=>K e m) (fun o _ ih K e m=>GJ P o ih K e m) l
theorem yn{P:Program}{o:LO}{r:List LO}{K:List CV->Mem->Prop}{e:List CV}{m:Mem}:H2 P (o::r) K e m=GJ P o (H2 P r) K e m:=rfl
def nr(P:Program)(lo:LO)(e:List CV)(m:Mem)(K:List CV->CV->Mem->Prop):Prop:=
 match lo.guard with
 |none=>step P lo.Bf e m fun v m'=>iM m' fun m'=>K e v m'
 |some (s,jB)=>match jR e s with
  | .undef=>K e .undef m
  | .rv (.one (.aa (.val (.bool t))))=>bB t
   (iM (ba e s (ay true)) fun e=>match jB with
    |true=>step P lo.Bf e m fun v m'=>iM m' fun m'=>K e v m'
    |false=>K e .undef m)
   (iM (ba e s (ay false)) fun e=>match jB with
    |false=>step P lo.Bf e m fun v m'=>iM m' fun m'=>K e v m'
    |true=>K e .undef m)
  |_=>False
def vd(j:Nat):List (Nat×LO×List CV×CV)->Option (LO×List CV×CV)
 | []=>none
 |(i,x)::r=>match Nat.beq i j with|true=>some x|false=>vd j r
def TO(P:Program)(m:Mem)(d9:List (Nat×LO×List CV×CV))(l:List Nat):Prop:=
 @List.rec Nat (fun _=>Prop) True (fun j _ ih=>(ok (vd j d9) fun x=>nr P x.1 x.2.1 m fun _ v _=>v=x.2.2)/\ih) l
theorem KF{P:Program}{m:Mem}{d9:List (Nat×LO×List CV×CV)}{j:Nat}{r:List Nat}:TO P m d9 (j::r)=((ok (vd j d9) fun x=>nr P x.1 x.2.1 m fun _ v _=>v=x.2.2)/\TO P m d9 r):=rfl
def GK(P:Program)(bW:List LO)(i:Nat)(Kx:Option (List Nat))(ih:List (Nat×LO×List CV×CV)->(List CV->Mem->Prop)->List CV->Mem->Prop)(d9:List (Nat×LO×List CV×CV))(K:List CV->Mem->Prop)(e:List CV)(m:Mem):Prop:=
 ok (df bW i) fun lo=>nr P lo e m fun e1 v m'=>put lo.dst v e1 fun e'=>
  match Kx with
  |none=>ih ((i,lo,e,v)::d9) K e' m'
  |some l=>TO P m' d9 l/\ih d9 K e' m'
def uj(P:Program)(bW:List LO)(Xx:nq):List (Nat×LO×List CV×CV)->(List CV->Mem->Prop)->List CV->Mem->Prop:=
 @nq.rec (fun _=>List (Nat×LO×List CV×CV)->(List CV->Mem->Prop)->List CV->Mem->Prop) (fun _ K e m=>K e m)
  (fun i Kx _ ih d9 K e m=>GK P bW i Kx ih d9 K e m) (fun _ _ Ro Rp d9 K e m=>Ro d9 K e m/\Rp d9 K e m) Xx
theorem yo{P:Program}{bW:List LO}{i:Nat}{Kx:Option (List Nat)}{r:nq}{d9:List (Nat×LO×List CV×CV)}{K:List CV->Mem->Prop}{e:List CV}{m:Mem}:
  uj P bW (.cons i Kx r) d9 K e m=GK P bW i Kx (uj P bW r) d9 K e m:=rfl
theorem KG{P:Program}{bW:List LO}{a b:nq}{d9:List (Nat×LO×List CV×CV)}{K:List CV->Mem->Prop}{e:List CV}{m:Mem}:
  uj P bW (.xK a b) d9 K e m=(uj P bW a d9 K e m/\uj P bW b d9 K e m):=rfl
def Rq(x:X)(v:CV)(e:List CV):List CV:=
 match x with
 | .t n=>ba e n v
 | .c _=>e
def mg:Nat->List (Nat×CV)->List CV
 |n,as=>go n as (gg n .ap)
 where go:Nat->List (Nat×CV)->List CV->List CV
 |_,[],e=>e
 |n,(s,v)::r,e=>ba (go n r e) s v
inductive mq:Mem->Mem->Prop
 |nil (m:Mem):mq m []
 |cons {b b':Bk} {m m':Mem} (h:b'=b\/b'= .bh) (hm:mq m m'):mq (b::m) (b'::m')
def CC.dF(n:Nat):CC->Prop
 | .ptr id _=>id<n
 | .mQ id _ _ _=>id<n
 | .row id _ _ _=>id<n
 | .map id=>id<n
 | .fn _ ew=>∀id,id∈ew->id<n
 |_=>True
def RV.dF(n:Nat):RV->Prop
 | .one c=>c.dF n
 | .agg cs=>∀c,c∈cs->c.dF n
def CV.dF(n:Nat):CV->Prop
 | .rv r=>r.dF n
 | .bF rs=>∀r,r∈rs->r.dF n
 |_=>True
def Bk.dF(n:Nat):Bk->Prop
 | .bh=>True
 | .var cs=>∀c,c∈cs->c.dF n
 | .row _ elems=>∀cs,cs∈elems->∀c,c∈cs->c.dF n
 | .mp es=>∀e,e∈es->e.val.dF n
 | .it _ _=>True
structure KH(n0:Nat)(s s':St):Prop where
 n0:n0<=s'.mem.length
 len:s'.aY.length=s.aY.length
 aY:∀(i:Nat)v,s'.aY[i]? =some v->v= .ap\/(s.aY[i]? =some v/\(s'.mem.length=s.mem.length\/v.dF s'.mem.length))
 mem:mq s.mem s'.mem
 jK:s'.mem.length=s.mem.length\/∀b,b∈s'.mem->b.dF s'.mem.length
structure Rr(n0:Nat)(ρ:bL)(m:Mem)(ρ':bL)(m':Mem):Prop where
 aR:∀id,id<n0->ρ'.aR (.au id)=ρ.aR (.au id)
 S:∀b,ρ.S b->ρ'.S b
 S':∀b,ρ'.S b->ρ.S b\/∃k,Live ρ m k/\(ρ.aR k).b=b
 aV:∀k,Live ρ' m' k->∃k0,Live ρ m k0/\(ρ.aR k0).b=(ρ'.aR k).b
structure View(n0:Nat)(s s':St):Prop where
 hn:n0<=s'.mem.length
 len:s'.aY.length=s.aY.length
 go:∀(ρ:bL)(w:World),aH ρ s.mem w->∃ρ',aH ρ' s'.mem w/\Rr n0 ρ s.mem ρ' s'.mem/\∀(i:Nat)c',s'.aY[i]? =some c'->∃c,s.aY[i]? =some c/\∀v,b8 ρ w c v->b8 ρ' w c' v
def Rs(f:(Ex->St->Prop)->St->Prop)(K:Ex->St->Prop)(ex:Ex)(s:St):Prop:=
 match ex with
 | .normal=>f K s
 | .exit id=>K (.exit id) s
 | .ret=>K .ret s
def DY(id:Nat)(K:Ex->St->Prop)(ex:Ex)(s:St):Prop:=
 match ex with
 | .normal=>K .normal s
 | .exit jL=>bB (Nat.beq jL id) (K .normal s) (K (.exit jL) s)
 | .ret=>K .ret s
def GL(n0:Nat){α:Type}(J:α->Prop)(S:α->St)(μ:α->Nat)(n:Nat)(K:Ex->St->Prop)(ex:Ex)(s:St):Prop:=
 match ex with
 | .normal=>∃a,J a/\μ a<n/\View n0 s (S a)
 | .exit id=>K (.exit id) s
 | .ret=>K .ret s
def H3(K:Ex->St->Prop)(e:List CV)(m:Mem):Prop:=K .normal ⟨e,m⟩
def o8:Mem->List Nat->Mem
 |m,[]=>m
 |m,id::r=>o8 (ba m id .bh) r
def zw(m:Mem):List Nat->List Value->Prop
 | [],[]=>True
 |id::r,v::vs=>(df m id=some (.var [.aa (.val v)])/\cT v=true)/\zw m r vs
 |_,_=>False
def qF(as:List (Nat×Nat)):List Value:=as.map fun a=>Value.pointer (some ⟨a.1,a.2,none⟩)
def Qk(P:Program)(l:Nat)(args:Array Value)(W:World)(R:Ending->World->Prop):Prop:=
 ∃fn tmps assign body,(Instr.yield l args).run P W= .ok (.round l fn tmps assign body) W/\RoundIn Fence.wide 0 P l fn tmps assign body W R
def TQ(P:Program)(gf:Nat)(cs:List Value)(xs:List ByteArray):Prop:=
 (∃fn,P.funcs[gf]? =some fn/\fn.body.isSome=true/\(fn.name== "runtime.NumGoroutine")=false)/\
 ∀(l:Nat)(as:List (Nat×Nat))(W:World)(J:Nat->World->Prop)(Jx:World->Prop),as.length=cs.length->(as.map (·.1)).Nodup->
  (∀(i:Nat)a v,as[i]? =some a->cs[i]? =some v->W.cell? ⟨a.1,a.2,none⟩=some v/\W.frozen? ⟨a.1,a.2,none⟩=false)->
  (∀k W W',J k W->W.heap.size<=W'.heap.size->(∀b,b<W.heap.size->(∀a,a∈as->b≠a.1)->W'.heap[b]? =W.heap[b]?)->W'.os=W.os->W'.tape=W.tape->W'.output=W.output->J k W')->
  (∀W W',Jx W->W.heap.size<=W'.heap.size->(∀b,b<W.heap.size->(∀a,a∈as->b≠a.1)->W'.heap[b]? =W.heap[b]?)->W'.os=W.os->W'.tape=W.tape->W'.output=W.output->Jx W')->
  (∀k y W,xs[k]? =some y->J k W->Qk P l #[.string y] W fun e W'=>
   (e= .returned (.bool true)/\J (k+1) W'/\W.heap.size<=W'.heap.size/\∀a,a∈as->W'.heap[a.1]? =W.heap[a.1]?)\/(e= .returned (.bool false)/\Jx W'))->
  J 0 W->
  CallsIn Fence.wide 0 P gf (#[.func (.yield l) #[] #[]]++(qF as).toArray) W fun e W'=>(∃v,e= .returned v)/\(J xs.length W'\/Jx W')
def Xy(n0:Nat){α:Type}(J:Nat->α->Prop)(S:α->St)(k:Nat)(aY:List CV)(K:Ex->St->Prop)(ex:Ex)(s:St):Prop:=
 match ex with
 | .normal=>∃a,J (k+1) a/\View n0 ⟨aY,s.mem⟩ (S a)
 | .exit id=>K (.exit id) ⟨aY,s.mem⟩
 | .ret=>K .ret ⟨aY,s.mem⟩
def Ot(P:Program)(bW:List LO)(K:Ex->St->Prop)(s:St):List nq->Prop
 | []=>True
 | [x]=>uj P bW x [] (H3 K) s.aY s.mem
 |x::y::r=>uj P bW x [] (H3 K) s.aY s.mem/\Ot P bW K s (y::r)
def aw(P:Program)(n0:Nat):LC->(Ex->St->Prop)->St->Prop
 | .skip,K,s=>K .normal s
 | .ai ops,K,s=>H2 P ops (H3 K) s.aY s.mem
 | .bQ bW pB,K,s=>Ot P bW K s pB
 | .seq a b,K,s=>aw P n0 a (Rs (aw P n0 b) K) s
 | .cond x a b,K,s=>match x.ev s.aY with
  | .rv (.one (.aa (.val (.bool t))))=>bB t
   (iM (Rq x (ay true) s.aY) fun e=>aw P n0 a K ⟨e,s.mem⟩)
   (iM (Rq x (ay false) s.aY) fun e=>aw P n0 b K ⟨e,s.mem⟩)
  |_=>False
 | .block id b,K,s=>aw P n0 b (DY id K) s
 | .loop b,K,s=>∃(α:Type)(J:α->Prop)(S:α->St)(μ:α->Nat),(∃a,J a/\View n0 s (S a))/\∀a,J a->aw P n0 b (GL n0 J S μ (μ a) K) (S a)
 | .exit id,K,s=>K (.exit id) s
 | .ret,K,s=>K .ret s
 | .cO a,K,s=>∃s',View n0 s s'/\aw P n0 a K s'
 | .xL x p la lb,K,s=>∃(gf:Nat)(jK:List Nat)(cs:List Value)(xs:List ByteArray)(α:Type)(J:Nat->α->Prop)(S:α->St),
   x.ev s.aY= .rv (.one (.fn gf jK))/\zw s.mem jK cs/\(jK.Nodup/\jK≠[])/\TQ P gf cs xs/\(∃a,J 0 a/\View n0 ⟨s.aY,o8 s.mem jK⟩ (S a))/\
   (∀k y a,xs[k]? =some y->J k a->pC (S a).mem fun n1=>aw P n1 la (fun ex s2=>match ex with
    | .normal=>pC s2.mem fun n2=>aw P n2 lb (Xy n0 J S k (S a).aY K) s2
    |_=>False) ⟨ba (S a).aY p (eM y),(S a).mem⟩)/\
   ∀a,J xs.length a->K .normal (S a)
def Bz(P:Program)(s:St):List Rv->(List RV->Prop)->Prop
 | [],K=>K []
 | .tmp t::r,K=>ok (DQ (jR s.aY t)) fun v=>Bz P s r fun vs=>K (v::vs)
 | .cell agg n t::r,K=>u4 s.aY s.mem agg n (jR s.aY t) fun v=>ok (DQ v) fun v=>Bz P s r fun vs=>K (v::vs)
def Rt:List RV->CV
 | [r]=>.rv r
 |rs=>.bF rs
def nG(P:Program)(lj:List Rv)(K:CV->Mem->Prop)(ex:Ex)(s:St):Prop:=
 match ex with
 | .exit _=>False
 |_=>Bz P s lj fun vs=>K (Rt vs) s.mem
def body(P:Program)(lf:LF)(args:List CV)(m:Mem)(K:CV->Mem->Prop):Prop:=
 iM (iI args (gg (lf.n-args.length) .undef)) fun e=>pC m fun n0=>aw P n0 lf.code (nG P lf.lj K) ⟨e,m⟩
abbrev qm(d s:Nat):LO:=⟨some d,.aD (.t s),none⟩
abbrev qu(d:Nat)(i:I):LO:=⟨some d,i,none⟩
abbrev qw(i:I):LO:=⟨none,i,none⟩
abbrev qg(d:Nat)(i:I)(s:Nat)(b:Bool):LO:=⟨some d,i,some (s,b)⟩
abbrev qf(d k s:Nat):LO:=⟨some d,.bg k (.t s),none⟩
abbrev ql(d s:Nat):LO:=⟨some d,.load false 1 (.t s),none⟩
abbrev qL(d n s:Nat):LO:=⟨some d,.load true n (.t s),none⟩
abbrev qi(n:Int):X:= .c (.rv (.one (.aa (.val (.int .i64 n)))))
abbrev qb(b:Bool):X:= .c (.rv (.one (.aa (.val (.bool b)))))
abbrev qe:X:= .c (.rv (.one .aI))
abbrev qd(n:Int):CC:= .aa (.val (.int .i64 n))
abbrev qc(f:Nat)(a:List X):I:= .call (.c (.rv (.one (.fn f [])))) a
instance(n:Nat):OfNat X n:=⟨.t n⟩
end Go.AM
