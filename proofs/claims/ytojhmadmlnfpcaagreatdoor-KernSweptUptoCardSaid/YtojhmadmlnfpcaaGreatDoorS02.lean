/- Part 2 of 18. -/
import Derived.Test.YtojhmadmlnfpcaaGreatDoorS01
import Derived.Laws.BytesArg
import Derived.RangeFuncLeaves
import Derived.RangeFuncRecord
set_option linter.unusedVariables false
set_option linter.unusedSimpArgs false
set_option linter.unnecessarySimpa false
set_option maxRecDepth 100000
set_option maxHeartbeats 0
namespace Go.AM
inductive X where
 |t (n:Nat)
 |c (v:CV)
inductive Kd where
 |b
 |i
 |s
inductive Ky where
 |i (k:IntKind)
 |s
 |b
inductive I where
 |aH (x:X)
 |pick (c a b:X)
 |alloc (z:List CC)
 |box (x:X)
 |build (z:List CC) (parts:List (Nat×Nat×X))
 |ln (esz:Nat) (z:List CC) (len:Nat) (parts:List (Nat×X))
 |load (agg:Bool) (n:Nat) (a:X)
 |store (n:Nat) (a x:X)
 |br (off:Nat) (a:X)
 |Ru (agg:Bool) (off n:Nat) (a:X)
 |bW (esz:Nat) (a i:X)
 |w9 (len esz:Nat) (a i:X)
 |A3 (a i:X)
 |aF (op:BinOp) (x y:X)
 |Ht (neg:Bool) (ks:List Kd) (x y:X)
 |beq (neg:Bool) (x y:X)
 |un (op:UnOp) (x:X)
 |conv (k:IntKind) (x:X)
 |Up (x:X)
 |Uq (x:X)
 |J8 (x:X)
 |nh (esz:Nat) (x:X) (lo hi mx:Option X)
 |Hu (x:X) (lo hi:Option X)
 |fn (f:Nat) (ei:List X)
 |len (k:Nat) (x:X)
 |ni (esz bytes:Nat) (dst src:X)
 |call (f:X) (args:List X)
 |ext (x:X) (i:Nat)
 |aY (x:X)
 |xb (neg:Bool) (x:X)
 |pk
 |oP (esz bytes:Nat) (z:List CC) (n c:X)
 |rR (z:RV) (kk:Ky) (m k:X) (ok:Bool)
 |rS (kk:Ky) (m k v:X)
 |ij (mx:Bool) (xs:List X)
 |Yf (m k:X)
 |copy (esz:Nat) (dst src:X)
 |TT (esz:Nat) (z:List CC) (x:X)
 |J9 (agg:Bool) (n sz:Nat) (x i:X)
 |Ur (x:X)
 |Xv (x:X)
 |th (x:X)
 |Xw (x:X)
structure LO where
 dst:Option Nat
 AN:I
 guard:Option (Nat×Bool)
inductive nj where
 |nil
 |cons (i:Nat) (Ka:Option (List Nat)) (r:nj)
 |xJ (a b:nj)
inductive LC where
 |skip
 |ai (ops:List LO)
 |bX (b7:List LO) (pH:List nj)
 |seq (a b:LC)
 |cond (x:X) (a b:LC)
 |block (id:Nat) (b:LC)
 |loop (b:LC)
 |exit (id:Nat)
 |ret
 |cu (a:LC)
 |xd (x:X) (p:Nat) (a b:LC)
def LC.er:LC->LC
 | .seq a b=>.seq a.er b.er
 | .cond x a b=>.cond x a.er b.er
 | .block id b=>.block id b.er
 | .loop b=>.loop b.er
 | .cu a=>a.er
 | .xd x p a b=>.xd x p a.er b.er
 | .skip=>.skip
 | .ai ops=>.ai ops
 | .bX a b=>.bX a b
 | .exit id=>.exit id
 | .ret=>.ret
def LC.qD:LC->Bool
 | .seq a b=>a.qD&&b.qD
 | .cond _ a b=>a.qD&&b.qD
 | .block _ b=>b.qD
 | .loop b=>b.qD
 | .cu a=>a.qD
 | .xd _ _ _ _=>false
 |_=>true
inductive Rv where
 |tmp (t:Nat)
 |cell (agg:Bool) (n:Nat) (t:Nat)
structure LF where
 n:Nat
 kD:List Rv
 code:LC
def LF.er(f:LF):LF:=⟨f.n,f.kD,f.code.er⟩
def dd{α:Type}:List α->Nat->Option α
 | [],_=>none
 |x::_,0=>some x
 |_::r,k+1=>dd r k
def bb{α:Type}:List α->Nat->α->List α
 | [],_,_=>[]
 |_::r,0,y=>y::r
 |x::r,k+1,y=>x::bb r k y
def iI{α:Type}{β:Sort _}:List α->(List α->β)->β
 | [],k=>k []
 |x::r,k=>iI r fun r'=>k (x::r')
def jQ:List CV->Nat->CV
 | [],_=>.aq
 |x::_,0=>x
 |_::r,k+1=>jQ r k
def X.ev(e:List CV):X->CV
 | .t n=>jQ e n
 | .c v=>v
def ok{α:Type}(o:Option α)(K:α->Prop):Prop:= @Option.rec α (fun _=>Prop) False K o
def bB(t:Bool)(A B:Prop):Prop:= @Bool.rec (fun _=>Prop) B A t
def iJ:List CC->Nat->Nat->Option (List CC)
 |_,0,0=>some []
 | [],_,_=>none
 |c::cs,0,n+1=>match iJ cs 0 n with|some l=>some (c::l)|none=>none
 |_::cs,j+1,n=>iJ cs j n
def gp:List CC->Nat->List CC->Option (List CC)
 |cs,0,[]=>some cs
 | [],_,_=>none
 |_::cs,0,x::xs=>match gp cs 0 xs with|some l=>some (x::l)|none=>none
 |c::cs,j+1,xs=>match gp cs j xs with|some l=>some (c::l)|none=>none
def uN:List Dt->Nat->Option (List CC)
 |_,0=>some []
 | [],_+1=>none
 |d::ds,n+1=>match uN ds n with|some l=>some (.aa d::l)|none=>none
def cellsOf:CV->Option (List CC)
 | .rv (.one c)=>some [c]
 | .rv (.agg cs)=>some cs
 |_=>none
def Dj:CV->Option RV
 | .rv r=>some r
 |_=>none
def Kb(agg:Bool)(l:List CC):Option CV:=
 match agg,l with
 |true,l=>some (.rv (.agg l))
 |false,[c]=>some (.rv (.one c))
 |false,_=>none
def iK:List CC->Bool
 | []=>true
 | .gO _ _::_=>false
 |_::r=>iK r
def cR{α:Type}(l:List α):Int->Option α
 | .ofNat k=>dd l k
 | .negSucc _=>none
def dH(n:Int)(len:Nat):Option Nat:=
 match n with
 | .ofNat k=>match Nat.blt k len with|true=>some k|false=>none
 | .negSucc _=>none
def ib(a b:Nat):Nat:=match a with|0=>b|a=>a+b
def lenOf(elems:Nat)(lo:Nat)(hi:Option Nat):Nat:=
 match lo,hi with
 |0,none=>elems
 |0,some h=>h
 |lo,none=>elems-lo
 |lo,some h=>h-lo
def cD{α:Type}(l:List α)(lo:Nat)(hi:Option Nat):List α:=
 match lo,hi with
 |0,none=>l
 |0,some h=>l.take h
 |lo,none=>l.drop lo
 |lo,some h=>(l.take h).drop lo
def nL(e:List CV):List CC->List (Nat×Nat×X)->Option (List CC)
 |z,[]=>some z
 |z,(off,sz,x)::r=>match cellsOf (x.ev e)with
  |some cs=>match Nat.beq cs.length sz with
   |true=>match gp z off cs with
    |some z'=>nL e z' r
    |none=>none
   |false=>none
  |none=>none
def ti(e:List CV)(esz:Nat):List (List CC)->List (Nat×X)->Option (List (List CC))
 |z,[]=>some z
 |z,(i,x)::r=>match cellsOf (x.ev e)with
  |some cs=>match Nat.beq cs.length esz&&Nat.blt i z.length with
   |true=>ti e esz (bb z i cs) r
   |false=>none
  |none=>none
def fT{α:Type}:Nat->α->List α
 |0,_=>[]
 |n+1,x=>x::fT n x
def FW(e:List CV):List X->List CV
 | []=>[]
 |x::r=>x.ev e::FW e r
def uO:List CV->Option (List Nat)
 | []=>some []
 | .rv (.one (.ptr id 0))::r=>match uO r with|some l=>some (id::l)|none=>none
 |_=>none
def uw:List Nat->List CV
 | []=>[]
 |id::r=>.rv (.one (.ptr id 0))::uw r
def gh{α:Type}:List α->List α->List α
 | [],l=>l
 |x::r,l=>x::gh r l
def uP{β:Sort _}(m0:Mem):Mem->List Nat->(Nat->β)->β
 | [],n::_,k=>k n
 |_::r,_::ls,k=>uP m0 r ls k
 |_,[],k=>k m0.length
def pI{β:Sort _}(m:Mem)(k:Nat->β):β:=
 uP m m [0,1,2,3,4,5,6,7,8,9,10,11,12,13,14,15,16,17,18,19,20,21,22,23,24,25,26,27,28,29,30,31,32,33,34,35,36,37,38,39,40,41,42,43,44,45,46,47,48,49,50,51,52,53,54,55,56,57,58,59,60,61,62,63] k
def an(k:IntKind)(n:Int):CV:= .rv (.one (.aa (.val (.int k n))))
def ax(b:Bool):CV:= .rv (.one (.aa (.val (.bool b))))
def eK(s:ByteArray):CV:= .rv (.one (.aa (.val (.string s))))
def Hv(op:BinOp):Value->Value->Option Value
 | .int k a,.int k' b=>
  match op with
  | .shl=>match decide (b<0)with|false=>some (.int k (k.wrap (a*2^(min b.toNat k.bits))))|true=>none
  | .shr=>match decide (b<0)with|false=>some (.int k (a.fdiv (2^(min b.toNat k.bits))))|true=>none
  |op=>match decide (k=k')with
   |false=>none
   |true=>match op with
    | .add=>some (.int k (k.wrap (a+b)))
    | .sub=>some (.int k (k.wrap (a-b)))
    | .mul=>some (.int k (k.wrap (a*b)))
    | .quo=>match decide (b=0)with|false=>some (.int k (k.wrap (a.tdiv b)))|true=>none
    | .rem=>match decide (b=0)with|false=>some (.int k (a.tmod b))|true=>none
    | .and=>some (.int k (k.wrap (BitVec.ofInt k.bits a&&&BitVec.ofInt k.bits b).toNat))
    | .or=>some (.int k (k.wrap (BitVec.ofInt k.bits a|||BitVec.ofInt k.bits b).toNat))
    | .xor=>some (.int k (k.wrap (BitVec.ofInt k.bits a^^^BitVec.ofInt k.bits b).toNat))
    | .andNot=>some (.int k (k.wrap (BitVec.ofInt k.bits a&&& ~~~ BitVec.ofInt k.bits b).toNat))
    | .eql=>some (.bool (a==b))
    | .neq=>some (.bool (a !=b))
    | .lss=>some (.bool (decide (a<b)))
    | .leq=>some (.bool (decide (a<=b)))
    | .gtr=>some (.bool (decide (a>b)))
    | .geq=>some (.bool (decide (a>=b)))
    |_=>none
 | .string a,.string b=>
  match op with
  | .add=>match decide (((a.size+b.size:Nat):Int)>IntKind.i64.max)with|false=>some (.string (a++b))|true=>none
  | .eql=>some (.bool (a.toList==b.toList))
  | .neq=>some (.bool (!(a.toList==b.toList)))
  | .lss=>some (.bool (Op.bytesLess a.toList b.toList))
  | .leq=>some (.bool (Op.bytesLess a.toList b.toList||a.toList==b.toList))
  | .gtr=>some (.bool (!(Op.bytesLess a.toList b.toList||a.toList==b.toList)))
  | .geq=>some (.bool (!(Op.bytesLess a.toList b.toList)))
  |_=>none
 |_,_=>none
def Xx(op:UnOp):Value->Option Value
 | .bool b=>match op with| .not=>some (.bool (!b))|_=>none
 | .int k n=>match op with| .neg=>some (.int k (k.wrap (0-n)))|_=>none
 |_=>none
def Oc:Kd->Value->Value->Option Bool
 | .i,.int k a,.int k' b=>match decide (k=k')with|true=>some (a==b)|false=>none
 | .s,.string a,.string b=>some (a.toList==b.toList)
 | .b,.bool a,.bool b=>some (a==b)
 |_,_,_=>none
def jR:List Kd->List CC->List CC->Option Bool
 | [],[],[]=>some true
 |k::ks,.aa (.val a)::r,.aa (.val b)::s=>match Oc k a b,jR ks r s with
  |some x,some y=>some (x&&y)
  |_,_=>none
 |_,_,_=>none
def au(P:Program)(f:Nat)(args:List CV)(m:Mem)(K:CV->Mem->Prop):Prop:=
 (∃fn,P.funcs[f]? =some fn/\fn.body.isSome=true/\(fn.name== "runtime.NumGoroutine")=false)/\
 ∀(ρ:bQ)(w:World)(vs:List Value),aL ρ m w->vs.length=args.length->(∀(i:Nat)c,args[i]? =some c->∃v,vs[i]? =some v/\cm ρ w c v)->
  Calls P f vs.toArray w fun e w'=>∃v r m' ρ',e= .returned v/\K r m'/\aL ρ' m' w'/\cm ρ' w' r v/\Ext ρ m w ρ' m' w'
def fV{β:Sort _}(v:CV)(k:CV->β):β:=
 match v with
 | .aq=>k .aq
 | .undef=>k .undef
 | .rv r=>match r with
  | .one c=>k (.rv (.one c))
  | .agg cs=>iI cs fun cs=>k (.rv (.agg cs))
 | .bK rs=>k (.bK rs)
def nk(a b:Value):Option Bool:=
 match a,b with
 | .int k x,.int k' y=>match decide (k=k')with|true=>some (x==y)|false=>none
 | .string x,.string y=>some (x==y)
 | .bool x,.bool y=>some (x==y)
 |_,_=>none
def nM(k:Value):List ME->Option (Option RV)
 | []=>some none
 |e::es=>match nk k e.key with
  |some true=>some (some e.val)
  |some false=>nM k es
  |none=>none
def uQ(k:Value)(v:RV):List ME->Option (List ME)
 | []=>some [⟨k,v⟩]
 |e::es=>match nk k e.key with
  |some true=>some (⟨k,v⟩::es)
  |some false=>match uQ k v es with|some l=>some (e::l)|none=>none
  |none=>none
def uR(e:List CV)(m:Mem)(agg:Bool)(n:Nat)(a:CV)(K:CV->Prop):Prop:=
 match a with
 | .rv (.one (.ptr id j))=>ok (dd m id) fun bk=>match bk with
  | .var cs=>ok (iJ cs j n) fun l=>ok (Kb agg l) K
  |_=>False
 | .rv (.one (.mM id esz i j))=>ok (dd m id) fun bk=>match bk with
  | .row nN elems=>bB (Nat.beq esz nN) (ok (dd elems i) fun cells=>ok (iJ cells j n) fun l=>bB (iK l) (ok (Kb agg l) K) False) False
  |_=>False
 | .rv (.one (.qB ds))=>ok (uN ds n) fun l=>ok (Kb agg l) K
 |_=>False
def fo(m:Mem)(esz:Nat)(v:CV):Option (List (List CC)):=
 match v with
 | .rv (.one (.aa (.sl e elems)))=>match Nat.beq e esz with
  |true=>some (elems.map fun ds=>ds.map .aa)
  |false=>none
 | .rv (.one (.row id e lo hi))=>match dd m id with
  |some (.row e2 rows)=>match Nat.beq e esz,Nat.beq e2 esz with
   |true,true=>some (cD rows lo hi)
   |_,_=>none
  |_=>none
 | .rv (.one .aI)=>some []
 |_=>none
def iE(m:Mem)(v:CV):Mem:=
 match v with
 | .rv (.one (.row id _ _ _))=>bb m id .aW
 |_=>m
def uS(v:CV):Bool:=
 match v with
 | .rv (.one (.row _ _ _ _))=>true
 | .rv (.one .aI)=>true
 |_=>false
def FX(a b:CV):Bool:=
 match a,b with
 | .rv (.one (.row i _ _ _)),.rv (.one (.row j _ _ _))=>!(Nat.beq i j)
 |_,_=>true
def CC.iK:CC->Bool
 | .gO _ _=>false
 |_=>true
def pJ:List CC->Bool
 | []=>true
 |c::r=>c.iK&&pJ r
def fp:List (List CC)->Bool
 | []=>true
 |c::r=>pJ c&&fp r
def cV{α:Type}(l:List α)(h:Nat)(E:List α):List α:=l.take h++(E++l.drop (h+E.length))
def pK(hi:Option Nat)(n:Nat):Nat:=match hi with|some h=>h|none=>n
def nR(v:CV):Option Nat:=
 match v with
 | .rv (.one (.aa (.val (.int _ (.ofNat k)))))=>some k
 |_=>none
def kF(e:List CV)(o:Option X)(d:Nat):Option Nat:=
 match o with
 |none=>some d
 |some x=>nR (x.ev e)
def Xy(v:CV):Bool:=
 match v with
 | .rv (.one (.aa (.val (.int _ n))))=>decide (n=0)
 |_=>false
def Dk(e:List CV)(o:Option X):Bool:=
 match o with
 |none=>false
 |some x=>Xy (x.ev e)
def Kc(v:CV):Bool:=
 match v with
 | .rv (.one (.aa (.sl _ _)))=>true
 | .rv (.one (.row _ _ _ _))=>true
 | .rv (.one .aI)=>true
 |_=>false
def tj:List (List CC)->Option (List Int)
 | []=>some []
 | [.aa (.val (.int .u8 n))]::r=>match tj r with|some l=>some (n::l)|none=>none
 |_=>none
def pL(s:ByteArray):List (List CC):=s.data.toList.map fun b=>[.aa (.val (.int .u8 b.toNat))]
def Ke(m:Mem)(v:CV):Option (List ME):=
 match v with
 | .rv (.one (.map id))=>match dd m id with|some (.mp es)=>some es|_=>none
 | .rv (.one (.aa (.val (.map none))))=>some []
 |_=>none
def xe:Ky->Value->Bool
 | .i k,.int k' _=>decide (k'=k)
 | .s,.string _=>true
 | .b,.bool _=>true
 |_,_=>false
def Us(okF:Bool)(z:RV)(o:Option RV):CV:=
 match okF,o with
 |false,none=>.rv z
 |false,some v=>.rv v
 |true,none=>.bK [z,.one (.aa (.val (.bool false)))]
 |true,some v=>.bK [v,.one (.aa (.val (.bool true)))]
def qE:List ME->Option (List (Value×Value))
 | []=>some []
 |⟨k,.one (.aa (.val v))⟩::r=>match cZ k&&cZ v with
  |true=>(qE r).map ((k,v):: ·)
  |false=>none
 |_=>none
def step(P:Program)(i:I)(e:List CV)(m:Mem)(K:CV->Mem->Prop):Prop:=
 match i with
 | .aH x=>K (x.ev e) m
 | .pick c a b=>match c.ev e with
  | .rv (.one (.aa (.val (.bool t))))=>bB t (K (a.ev e) m) (K (b.ev e) m)
  |_=>False
 | .alloc z=>pI m fun n=>K (.rv (.one (.ptr n 0))) (gh m [.var z])
 | .box x=>ok (cellsOf (x.ev e)) fun cs=>pI m fun n=>K (.rv (.one (.ptr n 0))) (gh m [.var cs])
 | .build z ps=>ok (nL e z ps) fun cs=>K (.rv (.agg cs)) m
 | .ln esz z len ps=>ok (ti e esz (fT len z) ps) fun rows=>iI rows fun rows=>pI m fun n=>K (.rv (.one (.row n esz 0 none))) (gh m [.row esz rows])
 | .load agg n a=>uR e m agg n (a.ev e) fun v=>K v m
 | .store n a x=>ok (cellsOf (x.ev e)) fun xs=>bB (Nat.beq xs.length n) (match a.ev e with
  | .rv (.one (.ptr id j))=>ok (dd m id) fun bk=>match bk with
   | .var cs=>ok (gp cs j xs) fun eh=>K .undef (bb m id (.var eh))
   |_=>False
  | .rv (.one (.mM id esz i j))=>ok (dd m id) fun bk=>match bk with
   | .row nN elems=>bB (Nat.beq esz nN) (ok (dd elems i) fun cells=>bB (iK cells) (ok (gp cells j xs) fun fb=>K .undef (bb m id (.row nN (bb elems i fb)))) False) False
   |_=>False
  |_=>False) False
 | .br off a=>match a.ev e with
  | .rv (.one (.ptr id j))=>K (.rv (.one (.ptr id (j+off)))) m
  | .rv (.one (.mM id esz i j))=>K (.rv (.one (.mM id esz i (j+off)))) m
  | .rv (.one (.qB ds))=>K (.rv (.one (.qB (ds.drop off)))) m
  |_=>False
 | .Ru agg off n a=>match a.ev e with
  | .rv (.agg cs)=>ok (iJ cs off n) fun l=>ok (Kb agg l) fun v=>K v m
  |_=>False
 | .bW esz a i=>match i.ev e with
  | .rv (.one (.aa (.val (.int _ n))))=>match a.ev e with
   | .rv (.one (.aa (.sl nN elems)))=>bB (Nat.beq esz nN) (ok (cR elems n) fun ds=>K (.rv (.one (.qB ds))) m) False
   | .rv (.one (.row id nN lo hi))=>ok (dd m id) fun bk=>match bk with
    | .row xf elems=>bB (Nat.beq esz nN) (bB (Nat.beq esz xf) (ok (dH n (lenOf elems.length lo hi)) fun k=>K (.rv (.one (.mM id esz (ib lo k) 0))) m) False) False
    |_=>False
   |_=>False
  |_=>False
 | .w9 len esz a i=>match i.ev e with
  | .rv (.one (.aa (.val (.int _ n))))=>match a.ev e with
   | .rv (.one (.ptr id j))=>ok (dH n len) fun k=>K (.rv (.one (.ptr id (j+k*esz)))) m
   | .rv (.one (.mM id s i' j))=>ok (dH n len) fun k=>K (.rv (.one (.mM id s i' (j+k*esz)))) m
   | .rv (.one (.qB ds))=>ok (dH n len) fun k=>K (.rv (.one (.qB (ds.drop (k*esz))))) m
   |_=>False
  |_=>False
 | .A3 a i=>match i.ev e with
  | .rv (.one (.aa (.val (.int _ n))))=>match a.ev e with
   | .rv (.one (.aa (.val (.string s))))=>ok (cR s.data.toList n) fun b=>K (an .u8 b.toNat) m
   |_=>False
  |_=>False
 | .aF op x y=>match x.ev e with
  | .rv (.one (.aa (.val a)))=>match y.ev e with
   | .rv (.one (.aa (.val b)))=>ok (Hv op a b) fun v=>K (.rv (.one (.aa (.val v)))) m
   |_=>False
  |_=>False
 | .Ht neg n x y=>match x.ev e with
  | .rv (.agg cs)=>match y.ev e with
   | .rv (.agg ds)=>ok (jR n cs ds) fun b=>K (ax (match neg with|true=>!b|false=>b)) m
   |_=>False
  |_=>False
 | .beq neg x y=>match x.ev e with
  | .rv (.one (.aa (.val (.bool a))))=>match y.ev e with
   | .rv (.one (.aa (.val (.bool b))))=>K (ax (match neg with|true=>!(a==b)|false=>a==b)) m
   |_=>False
  |_=>False
 | .un op x=>match x.ev e with
  | .rv (.one (.aa (.val a)))=>ok (Xx op a) fun v=>K (.rv (.one (.aa (.val v)))) m
  |_=>False
 | .conv k x=>match x.ev e with
  | .rv (.one (.aa (.val (.int _ n))))=>K (an k (k.wrap n)) m
  |_=>False
 | .Up x=>match x.ev e with
  | .rv (.one (.aa (.val (.string s))))=>K (eK s) m
  |_=>False
 | .fn f ei=>ok (uO (FW e ei)) fun jG=>K (.rv (.one (.fn f jG))) m
 | .len 1 x=>match x.ev e with
  | .rv (.one (.aa (.sl _ elems)))=>K (an .i64 (elems.length:Int)) m
  | .rv (.one (.row id _ lo hi))=>ok (dd m id) fun bk=>match bk with
   | .row _ elems=>K (an .i64 (lenOf elems.length lo hi:Int)) m
   |_=>False
  | .rv (.one .aI)=>K (an .i64 0) m
  |_=>False
 | .len 0 x=>match x.ev e with
  | .rv (.one (.aa (.val (.string s))))=>K (an .i64 (s.size:Int)) m
  |_=>False
 | .len 2 x=>match x.ev e with
  | .rv (.one (.map id))=>ok (dd m id) fun bk=>match bk with
   | .mp es=>K (an .i64 (es.length:Int)) m
   |_=>False
  |_=>False
 | .call f args=>match f.ev e with
  | .rv (.one (.fn f ei))=>au P f (gh (FW e args) (uw ei)) m K
  |_=>False
 | .ext x i=>match x.ev e with
  | .bK rs=>ok (dd rs i) fun r=>K (.rv r) m
  |_=>False
 | .ni esz bytes dst src=>bB (uS (dst.ev e)&&FX (dst.ev e) (src.ev e)) (ok (fo m esz (dst.ev e)) fun E1=>ok (fo m esz (src.ev e)) fun E2=>
   (E1.length+E2.length)*bytes<=140737488355328/\pI m fun n=>K (.rv (.one (.row n esz 0 none))) (gh (iE (iE m (dst.ev e)) (src.ev e)) [.row esz (E1++E2)]))
   (match dst.ev e with
   | .rv (.one (.row id e1 lo (some h)))=>ok (dd m id) fun bk=>match bk with
    | .row e2 rows=>ok (fo m esz (src.ev e)) fun E2=>bB (Nat.beq lo 0&&(Nat.beq e1 esz&&(Nat.beq e2 esz&&(Nat.ble 1 rows.length&&(Nat.ble (h+E2.length) rows.length&&fp E2)))))
     (rows.length*bytes<=140737488355328/\K (.rv (.one (.row id esz 0 (some (h+E2.length))))) (bb m id (.row esz (cV rows h E2)))) False
    |_=>False
   |_=>False)
 | .xb neg x=>match x.ev e with
  | .rv (.one (.aa (.sl _ elems)))=>bB (Nat.beq elems.length 0) (K (ax true) m/\K (ax false) m) (K (ax neg) m)
  | .rv (.one (.row id _ lo hi))=>ok (dd m id) fun bk=>match bk with
   | .row _ elems=>bB (Nat.beq (lenOf elems.length lo hi) 0) (K (ax true) m/\K (ax false) m) (K (ax neg) m)
   |_=>False
  | .rv (.one .aI)=>K (ax true) m/\K (ax false) m
  |_=>False
 | .nh esz x lo hi (some mx)=>bB (lo.isNone&&Dk e hi&&Xy (mx.ev e)&&Kc (x.ev e)) (K (.rv (.one .aI)) m)
   (ok (kF e lo 0) fun l=>ok (fo m esz (x.ev e)) fun E=>ok (kF e hi E.length) fun h=>ok (nR (mx.ev e)) fun Ut=>bB (lo.isSome&&(hi.isSome&&(Nat.ble l h&&(Nat.ble h Ut&&Nat.ble Ut E.length)))) (K .aq m) False)
 | .nh esz x lo hi none=>ok (kF e lo 0) fun l=>match x.ev e with
  | .rv (.one (.aa (.sl e2 elems)))=>bB (Nat.beq e2 esz) (ok (kF e hi elems.length) fun h=>bB (Nat.ble l h&&Nat.ble h elems.length) (K (.rv (.one (.aa (.sl esz ((elems.take h).drop l))))) m) False) False
  | .rv (.one (.row id e2 Dl uy))=>ok (dd m id) fun bk=>match bk with
   | .row _ elems=>bB (Nat.beq e2 esz) (ok (kF e hi (lenOf elems.length Dl uy)) fun h=>bB (Nat.ble l h&&Nat.ble h (elems.length-Dl)) (K (.rv (.one (.row id esz (ib Dl l) (some (ib Dl h))))) m) False) False
   |_=>False
  |_=>False
 | .Hu x lo hi=>match x.ev e with
  | .rv (.one (.aa (.val (.string s))))=>ok (kF e lo 0) fun l=>ok (kF e hi s.size) fun h=>bB (Nat.ble l h&&Nat.ble h s.size) (K (eK (s.extract l h)) m) False
  |_=>False
 | .aY x=>match x.ev e with
  | .rv (.one (.ptr id j))=>K (.rv (.one (.ptr id j))) m
  | .rv (.one (.mM id s i j))=>K (.rv (.one (.mM id s i j))) m
  | .rv (.one (.qB ds))=>K (.rv (.one (.qB ds))) m
  |_=>False
 | .J8 x=>ok (fo m 1 (x.ev e)) fun E=>ok (tj E) fun xs=>K (eK (strOfNums xs)) m
 | .Uq x=>match x.ev e with
  | .rv (.one (.aa (.val (.string s))))=>s.size<=140737488355328/\pI m fun n=>K (.rv (.one (.row n 1 0 none))) (gh m [.row 1 (pL s)])
  |_=>False
 | .ij mx [x,y]=>match x.ev e with
  | .rv (.one (.aa (.val (.int k a))))=>match y.ev e with
   | .rv (.one (.aa (.val (.int _ b))))=>match mx with
    |true=>K (an k (if b>a then b else a)) m
    |false=>K (an k (if b<a then b else a)) m
   |_=>False
  |_=>False
 | .Ur x=>match x.ev e with
  | .rv (.one (.row id e1 lo hi))=>ok (dd m id) fun bk=>match bk with
   | .row esz rows=>bB (Nat.beq esz 1&&Nat.blt lo rows.length) (K (.rv (.one (.row id e1 lo hi))) m) False
   |_=>False
  |_=>False
 | .TT esz z x=>match x.ev e with
  | .rv (.one (.row id e1 lo hi))=>ok (dd m id) fun bk=>match bk with
   | .row e2 rows=>bB (Nat.beq e1 esz&&(Nat.beq e2 esz&&Nat.ble (pK hi rows.length) rows.length))
     (bB (Nat.blt lo (pK hi rows.length)) (K (.bK []) (bb m id (.row esz (cV rows lo (fT (pK hi rows.length-lo) z))))) (K (.bK []) m)) False
   |_=>False
  | .rv (.one .aI)=>K (.bK []) m
  |_=>False
 | .copy esz d s=>ok (fo m esz (s.ev e)) fun E=>bB (Nat.beq E.length 0) (bB (Kc (d.ev e)) (K (an .i64 0) m) False)
   (match d.ev e with
   | .rv (.one (.row id e1 lo hi))=>ok (dd m id) fun bk=>match bk with
    | .row e2 rows=>bB (Nat.beq e1 esz&&(Nat.beq e2 esz&&(Nat.ble (pK hi rows.length) rows.length&&(Nat.ble (lo+E.length) (pK hi rows.length)&&fp E)))) (K (an .i64 (E.length:Int)) (bb m id (.row esz (cV rows lo E)))) False
    |_=>False
   |_=>False)
 | .J9 agg n sz x i=>match i.ev e with
  | .rv (.one (.aa (.val (.int _ j))))=>match x.ev e with
   | .rv (.agg cs)=>ok (dH j n) fun k=>ok (iJ cs (k*sz) sz) fun l=>ok (Kb agg l) fun v=>K v m
   |_=>False
  |_=>False
 | .Xv x=>match x.ev e with
  | .rv (.one (.map id))=>ok (dd m id) fun bk=>match bk with
   | .mp es=>ok (qE es) fun l=>pI m fun n=>K (.rv (.one (.ptr n 0))) (gh (bb m id .aW) [.it [] l])
   |_=>False
  |_=>False
 | .th x=>match x.ev e with
  | .rv (.one (.ptr id 0))=>ok (dd m id) fun bk=>match bk with
   | .it _ left=>(left=[]->K (.bK [.one (.aa (.val (.bool false)))]) m)/\∀(i:Nat)(k v:Value)(Qm:List (Value×Value)),left[i]? =some (k,v)->Qm=left.eraseIdx i->K (.bK [.one (.aa (.val (.bool true))),.one (.aa (.val k)),.one (.aa (.val v))]) (bb m id (.it [(k,v)] Qm))
   |_=>False
  |_=>False
 | .Xw x=>match x.ev e with
  | .rv (.one (.ptr id 0))=>ok (dd m id) fun bk=>match bk with
   | .it (p::_) _=>K (.bK [.one (.aa (.val p.1)),.one (.aa (.val p.2))]) m
   |_=>False
  |_=>False
 | .pk=>pI m fun n=>K (.rv (.one (.map n))) (gh m [.mp []])
 | .oP esz bytes z nx cx=>ok (nR (nx.ev e)) fun l=>ok (nR (cx.ev e)) fun c=>bB (Nat.beq l c) (c*bytes<=140737488355328/\pI m fun n=>K (.rv (.one (.row n esz 0 none))) (gh m [.row esz (fT l z)])) False
 | .rR z kk mx kx okF=>match kx.ev e with
  | .rv (.one (.aa (.val kv)))=>bB (xe kk kv) (ok (Ke m (mx.ev e)) fun es=>ok (nM kv es) fun o=>K (Us okF z o) m) False
  |_=>False
 | .rS kk mx kx vx=>match mx.ev e with
  | .rv (.one (.map id))=>match kx.ev e with
   | .rv (.one (.aa (.val kv)))=>bB (xe kk kv) (ok (dd m id) fun bk=>match bk with
    | .mp es=>ok (Dj (vx.ev e)) fun v=>ok (uQ kv v es) fun c6=>K .undef (bb m id (.mp c6))
    |_=>False) False
   |_=>False
  |_=>False
 |_=>False
def uT:Value->Option CC
 | .slice none 0 0=>some .aI
 |v=>match cZ v with|true=>some (.aa (.val v))|false=>none
def bt:Operand->Option X
 | .tmp t=>some (.t t)
 | .const v=>(uT v).map fun c=>.c (.rv (.one c))
 | .func f=>some (.c (.rv (.one (.fn f []))))
 | .global _=>none
def tk:List Operand->Option (List X)
 | []=>some []
 |x::r=>do some ((<-bt x)::(<-tk r))
def gW:Option Operand->Option (Option X)
 |none=>some none
 |some x=>do some (some (<-bt x))
def eL(P:Program)(t:TypeId):Option Nat:=(P.info? t).map (·.size)
def ep(P:Program)(t:TypeId):Option Bool:=(P.underlying t).map fun| .struct _| .array _ _=>true|_=>false
def ma:List Value->Option (List CC)
 | []=>some []
 |v::r=>do some ((<-uT v)::(<-ma r))
def dY(P:Program)(t:TypeId):Option (List CC):=do ma (<-(<-P.info? t).zero).cells.toList
def mc(P:Program)(fs:Array Field):List (Nat×Operand)->Option (List (Nat×Nat×X))
 | []=>some []
 |(i,x)::r=>do
  let f<-fs[i]?
  some ((f.offset,<-eL P f.type,<-bt x)::(<-mc P fs r))
def kh(sz:Nat):List (Nat×Operand)->Option (List (Nat×Nat×X))
 | []=>some []
 |(i,x)::r=>do some ((i*sz,sz,<-bt x)::(<-kh sz r))
def ki:List (Nat×Operand)->Option (List (Nat×X))
 | []=>some []
 |(i,x)::r=>do some ((i,<-bt x)::(<-ki r))
def A4(g:TypeId->Option (List Kd)):List Field->Nat->Option (List Kd)
 | [],_=>some []
 |f::r,off=>if f.name≠ "_" /\f.offset=off then
   match g f.type with
   |some ks=>match A4 g r (off+ks.length)with
    |some ls=>some (ks++ls)
    |none=>none
   |none=>none
  else none
def flatK(P:Program):Nat->TypeId->Option (List Kd)
 |0,_=>none
 |d+1,t=>match P.underlying t with
  |some .bool=>if eL P t=some 1 then some [.b]else none
  |some (.int _)=>if eL P t=some 1 then some [.i]else none
  |some .string=>if eL P t=some 1 then some [.s]else none
  |some (.struct fs)=>if P.stoodInHeld t=false then
    match A4 (flatK P d) fs.toList 0 with
    |some ks=>if eL P t=some ks.length then some ks else none
    |none=>none
   else none
  |_=>none
def Hw(P:Program)(t:TypeId):Option Ky:=
 match P.underlying t with
 |some (.int k)=>some (.i k)
 |some .string=>some .s
 |some .bool=>some .b
 |_=>none
def FY(P:Program)(t:TypeId):Option RV:=do
 match (<-(<-P.info? t).zero)with
 | .agg cs=>do some (.agg (<-ma cs.toList))
 |v=>do some (.one (<-uT v))
def uU(P:Program)(o:Oper):Option I:=
 match o.op with
 | .move x| .assign x=>do some (.aH (<-bt x))
 | .pick c a b=>do some (.pick (<-bt c) (<-bt a) (<-bt b))
 | .alloc t=>do some (.alloc (<-dY P t))
 | .box _ x=>do some (.box (<-bt x))
 | .build t ps=>do
  let z<-dY P t
  match P.underlying t with
  |some (.struct fs)=>if(fs.toList.mapM (fun f=>(P.info? f.type).map fun i=>(f.offset,i.size))).isSome then some (.build z (<-mc P fs ps.toList))else none
  |some (.array _ e)=>some (.build z (<-kh (<-eL P e) ps.toList))
  |_=>none
 | .buildSlice t n ps=>do
  match P.underlying t with
  |some (.slice e)=>
   let z<-dY P e
   if(<-eL P e)=z.length/\0<z.length/\n*z.length<=2^24 then some (.ln z.length z n (<-ki ps.toList))else none
  |_=>none
 | .load t a=>do some (.load (<-ep P t) (<-eL P t) (<-bt a))
 | .store t a x=>do
  let n<-eL P t
  if n=0 then none else some (.store n (<-bt a) (<-bt x))
 | .fieldAddr t a k=>do
  match P.underlying t with
  |some (.struct fs)=>
   let f<-fs[k]?
   if(<-eL P f.type)=0 then none else some (.br f.offset (<-bt a))
  |_=>none
 | .field t a k=>do
  match P.underlying t with
  |some (.struct fs)=>
   let f<-fs[k]?
   some (.Ru (<-ep P f.type) f.offset (<-eL P f.type) (<-bt a))
  |_=>none
 | .indexAddr t a i=>do
  match P.underlying t with
  |some (.slice e)=>some (.bW (<-eL P e) (<-bt a) (<-bt i))
  |some (.array n e)=>some (.w9 n (<-eL P e) (<-bt a) (<-bt i))
  |_=>none
 | .index t a i=>do
  match P.underlying t with
  |some .string=>some (.A3 (<-bt a) (<-bt i))
  |some (.array n e)=>some (.J9 (<-ep P e) n (<-eL P e) (<-bt a) (<-bt i))
  |_=>none
 | .binOp op t x y _=>do
  match P.underlying t with
  |some (.int _)|some .string=>some (.aF op (<-bt x) (<-bt y))
  |some (.slice _)=>match y,op with
   | .const (.slice none 0 0),.eql=>some (.xb false (<-bt x))
   | .const (.slice none 0 0),.neq=>some (.xb true (<-bt x))
   |_,_=>none
  |some .bool=>match op with
   | .eql=>some (.beq false (<-bt x) (<-bt y))
   | .neq=>some (.beq true (<-bt x) (<-bt y))
   |_=>none
  |some (.array n e)=>match P.eqGuardType P.depth t,P.underlying e,eL P e,op with
   |false,some (.int _),some 1,.eql=>some (.Ht false (fT n .i) (<-bt x) (<-bt y))
   |false,some (.int _),some 1,.neq=>some (.Ht true (fT n .i) (<-bt x) (<-bt y))
   |_,_,_,_=>none
  |some (.struct _)=>match P.eqGuardType P.depth t,flatK P 5 t,op with
   |false,some ks,.eql=>some (.Ht false ks (<-bt x) (<-bt y))
   |false,some ks,.neq=>some (.Ht true ks (<-bt x) (<-bt y))
   |_,_,_=>none
  |_=>none
 | .unOp op _ x=>do some (.un op (<-bt x))
 | .convert s d x=>do
  match P.underlying s,P.underlying d with
  |some (.int _),some (.int k)=>some (.conv k (<-bt x))
  |some .string,some .string=>some (.Up (<-bt x))
  |some (.slice e),some .string=>match P.underlying e with
   |some (.int .u8)=>some (.J8 (<-bt x))
   |_=>none
  |some .string,some (.slice e)=>match P.underlying e with
   |some (.int .u8)=>some (.Uq (<-bt x))
   |_=>none
  |some (.slice _),some (.slice e)=>match s==d,P.underlying e with
   |true,some (.int .u8)=>some (.Ur (<-bt x))
   |_,_=>none
  |_,_=>none
 | .makeMap t r=>match r,P.underlying t with
  |none,_=>some .pk
  |some (.const (.int _ _)),some (.map _ _)=>some .pk
  |_,_=>none
 | .makeSlice t l c=>do
  match P.underlying t with
  |some (.slice e)=>
   let i<-P.info? e;let z<-dY P e
   if i.size=z.length/\0<z.length/\0<i.bytes then some (.oP i.size i.bytes z (<-bt l) (<-bt c))else none
  |_=>none
 | .lookup t x k b=>do
  match P.underlying t with
  |some (.map kt vt)=>some (.rR (<-FY P vt) (<-Hw P kt) (<-bt x) (<-bt k) b)
  |_=>none
 | .mapUpdate t x k v| .insert t x k v=>do
  match P.underlying t with
  |some (.map kt _)=>some (.rS (<-Hw P kt) (<-bt x) (<-bt k) (<-bt v))
  |_=>none
 | .makeFunc (.func f) fst ei=>if fst.size=0 then do some (.fn f (<-tk ei.toList))else none
 | .extract x i=>do some (.ext (<-bt x) i)
 | .nilCheck x=>do some (.aY (<-bt x))
 | .range t x=>match P.underlying t with
  |some (.map _ _)=>do some (.Xv (<-bt x))
  |_=>none
 | .next it false=>do some (.th (<-bt it))
 | .entry it=>do some (.Xw (<-bt it))
 | .slice t x lo hi mx=>do
  match P.underlying t with
  |some (.slice e)=>some (.nh (<-eL P e) (<-bt x) (<-gW lo) (<-gW hi) (<-gW mx))
  |some .string=>match mx with
   |none=>some (.Hu (<-bt x) (<-gW lo) (<-gW hi))
   |some _=>none
  |_=>none
 | .call {callee:= .builtin .len,args,argTypes}=>do
  match args.toList,argTypes.toList with
  | [x],[t]=>match P.underlying t with
   |some .string=>some (.len 0 (<-bt x))
   |some (.slice _)=>some (.len 1 (<-bt x))
   |some (.map _ _)=>some (.len 2 (<-bt x))
   |_=>none
  |_,_=>none
 | .call {callee:= .builtin .append,args,argTypes}=>do
  match args.toList,argTypes.toList with
  | [x,y],[t,t2]=>match P.underlying t,P.underlying t2 with
   |some (.slice e),some (.slice e2)=>
    let i<-P.info? e;let z<-dY P e
    if i.size=z.length/\0<z.length/\0<i.bytes then some (.ni i.size i.bytes (<-bt x) (<-bt y))else none
   |_,_=>none
  |_,_=>none
 | .call {callee:= .builtin .max,args,..}=>do
  match args.toList with
  | [x,y]=>some (.ij true [<-bt x,<-bt y])
  |_=>none
 | .call {callee:= .builtin .min,args,..}=>do
  match args.toList with
  | [x,y]=>some (.ij false [<-bt x,<-bt y])
  |_=>none
 | .call {callee:= .builtin .clear,args,argTypes}=>do
  match args.toList,argTypes.toList with
  | [x],[t]=>match P.underlying t with
   |some (.slice e)=>
    let i<-P.info? e;let z<-dY P e
    if i.size=z.length then some (.TT i.size z (<-bt x))else none
   |_=>none
  |_,_=>none
 | .call {callee:= .builtin .copy,args,argTypes}=>do
  match args.toList,argTypes.toList with
  | [x,y],[t,_]=>match P.underlying t with
   |some (.slice e)=>
    let i<-P.info? e;let z<-dY P e
    if i.size=z.length then some (.copy i.size (<-bt x) (<-bt y))else none
   |_=>none
  |_,_=>none
 | .call {callee:= .value f,args,..}=>do some (.call (<-bt f) (<-tk args.toList))
 |_=>none
def Kf:I:= .ij true []
def rT(P:Program)(o:Oper):Option I:=
 match uU P o with
 |some i=>some i
 |none=>match o.op with
  | .defer _=>none
  |_=>some Kf
theorem Od(P:Program){e:List CV}{m:Mem}{K:CV->Mem->Prop}:step P Kf e m K=False:=rfl
theorem Dm{P:Program}{o:Oper}{i:I}(h:rT P o=some i):uU P o=some i\/i=Kf:=by
 unfold rT at h;split at h
 .rename_i j hj;exact .inl (by rw[hj];exact h)
 .split at h
  .cases h
  .cases h;exact .inr rfl
def Kg(ops:Array Oper):Option (Nat×Bool)->Option (Option (Nat×Bool))
 |none=>some none
 |some (j,b)=>do some (some (<-(<-ops[j]?).dst,b))
def uV(P:Program)(ops:Array Oper)(o:Oper):Option LO:=do some ⟨o.dst,<-rT P o,<-Kg ops o.guard⟩
def me(P:Program)(ops:Array Oper):List Oper->Option (List LO)
 | []=>some []
 |o::r=>do some ((<-uV P ops o)::(<-me P ops r))
def I.xs:I->List X
 | .aH x=>[x]
 | .pick c a b=>[c,a,b]
 | .alloc _=>[]
 | .box x=>[x]
 | .build _ ps=>ps.map fun p=>p.2.2
 | .ln _ _ _ ps=>ps.map fun p=>p.2
 | .load _ _ a=>[a]
 | .store _ a x=>[a,x]
 | .br _ a=>[a]
 | .Ru _ _ _ a=>[a]
 | .bW _ a i=>[a,i]
 | .w9 _ _ a i=>[a,i]
 | .A3 a i=>[a,i]
 | .aF _ x y=>[x,y]
 | .Ht _ _ x y=>[x,y]
 | .beq _ x y=>[x,y]
 | .un _ x=>[x]
 | .conv _ x=>[x]
 | .Up x=>[x]
 | .Uq x=>[x]
 | .J8 x=>[x]
 | .nh _ x lo hi mx=>x::(lo.toList++hi.toList++mx.toList)
 | .Hu x lo hi=>x::(lo.toList++hi.toList)
 | .fn _ ei=>ei
 | .len _ x=>[x]
 | .ni _ _ d s=>[d,s]
 | .call f args=>f::args
 | .ext x _=>[x]
 | .aY x=>[x]
 | .xb _ x=>[x]
 | .pk=>[]
 | .oP _ _ _ n c=>[n,c]
 | .rR _ _ m k _=>[m,k]
 | .rS _ m k v=>[m,k,v]
 | .ij _ xs=>xs
 | .Yf m k=>[m,k]
 | .copy _ d s=>[d,s]
 | .TT _ _ x=>[x]
 | .J9 _ _ _ x i=>[x,i]
 | .Ur x=>[x]
 | .Xv x=>[x]
 | .th x=>[x]
 | .Xw x=>[x]
def lq:List X->List Nat
 | []=>[]
 | .t n::r=>n::lq r
 | .c _::r=>lq r
def LO.looks(lo:LO):List Nat:=
 match lo.guard with
 |none=>lq lo.AN.xs
 |some (s,_)=>s::lq lo.AN.xs
def xK:I->Bool
 | .aH _| .pick .. | .build .. | .br .. | .Ru .. | .J9 .. | .w9 .. | .A3 .. | .aF .. | .Ht .. | .beq .. | .un .. | .conv .. | .Up .. | .fn .. | .ext .. | .aY _| .Hu .. =>true
 |_=>false
def rU(i:I):Bool:=xK i||match i with| .load .. | .bW .. | .len .. | .nh .. =>true|_=>false
def y4(eB:List Nat)(l:List Nat):Nat:=l.foldr (fun j m=>Nat.lor m (Nat.lor (Nat.shiftLeft 1 j) ((dd eB j).getD 0))) 0
def Dn(gB:List (List Nat))(eB:List Nat):List Nat:=gB.map (y4 eB)
def y5(gB:List (List Nat)):Nat->List Nat->List Nat
 |0,eB=>eB
 |k+1,eB=>let a:=Dn gB eB;match a==eB with|true=>eB|false=>y5 gB k a
def bg(n:Nat)(gB:List (List Nat)):List Nat:=y5 gB n []
def mN(ms:List Nat)(i j:Nat):Bool:=Nat.testBit ((dd ms i).getD 0) j
def dj(b7:List LO)(t j:Nat):Bool:=match dd b7 j with|some lo=>(match lo.dst with|some d=>Nat.beq d t|none=>false)|none=>false
def nS(b7:List LO)(j:Nat):List Nat:=match dd b7 j with|some lo=>lo.looks|none=>[]
def Hx(b7:List LO)(j:Nat):Option Nat:=match dd b7 j with|some lo=>lo.dst|none=>none
def Dp(b7:List LO)(j:Nat):Bool:=match dd b7 j with|some lo=>xK lo.AN|none=>false
def lu(b7:List LO)(j:Nat):Bool:=match dd b7 j with|some lo=>rU lo.AN|none=>false
def nj.hd:nj->List Nat
 | .nil=>[]
 | .cons i _ _=>[i]
 | .xJ a b=>a.hd++b.hd
def FZ(b7:List LO)(ms:List Nat)(n:Nat)(bf:List Nat)(i:Nat):Bool:=
 Nat.blt i n&& !(bf.contains i)&&
  ((nS b7 i).all fun t=>bf.all fun j=>!(dj b7 t j)||mN ms i j)&&
  (match Hx b7 i with|none=>true|some t=>bf.all fun j=>!(dj b7 t j)&&(!((nS b7 j).contains t)||mN ms i j))
def Rw(ms:List Nat)(n:Nat)(bf hd:List Nat):Bool:=(List.range n).all fun i=>bf.contains i||(hd.contains i||hd.any fun f=>mN ms i f)
def dS(b7:List LO)(ms:List Nat)(n:Nat):Bool->List Nat->nj->Bool
 |c,bf,.nil=>c&&(List.range n).all fun i=>bf.contains i
 |c,bf,.cons i none r=>c&&(FZ b7 ms n bf i&&(lu b7 i&&dS b7 ms n true (i::bf) r))
 |c,bf,.cons i (some l) r=>(!c||Rw ms n bf [i])&&(FZ b7 ms n bf i&&((bf.all fun j=>!(lu b7 j)||(mN ms i j||(Dp b7 j||l.contains j)))&&dS b7 ms n true (i::bf) r))
 |c,bf,.xJ x y=>(!c||Rw ms n bf (x.hd++y.hd))&&(dS b7 ms n false bf x&&dS b7 ms n false bf y)
def xL(gB:List (List Nat))(n:Nat):List Nat->List Nat->Bool
 |bf,[]=>(List.range n).all fun i=>bf.contains i
 |bf,i::r=>Nat.blt i n&&((dd gB i).getD []).all (fun j=>bf.contains j)&&xL gB n (i::bf) r
def Uu(gB:List (List Nat))(n:Nat):Nat->List Nat->List Nat
 |0,_=>[]
 |k+1,bf=>match (List.range n).find? fun i=>!(bf.contains i)&&((dd gB i).getD []).all (fun j=>bf.contains j)with
  |some i=>i::Uu gB n k (i::bf)
  |none=>[]
def qF(b7:List LO)(gB:List (List Nat))(sched:nj):Bool:=
 xL gB b7.length [] (Uu gB b7.length b7.length [])&&dS b7 (bg b7.length gB) b7.length true [] sched
def Kh(b7:List LO)(ms:List Nat)(A5:List Nat)(done:List Nat)(i:Nat):Bool:=
 !(done.contains i)&&lu b7 i&&A5.all fun f=>done.contains f|| !(mN ms i f)
def Qn:List Nat->nj->nj
 | [],r=>r
 |i::l,r=>.cons i none (Qn l r)
def Uv:List nj->nj
 | []=>.nil
 | [x]=>x
 |x::r=>.xJ x (Uv r)
def F0(b7:List LO)(ms:List Nat)(all A5:List Nat):Nat->List Nat->nj
 |0,_=>.nil
 |k+1,done=>
  let Xz:=all.filter (Kh b7 ms A5 done);let Qo:=Xz.reverse++done;let left:=A5.filter fun f=>!(done.contains f)
  Qn Xz (Uv ((left.filter fun f=>left.all fun g=>Nat.beq g f|| !(mN ms f g)).map fun f=>
   .cons f (some (Qo.filter fun j=>lu b7 j&& !(mN ms f j||Dp b7 j))) (F0 b7 ms all A5 k (f::Qo))))
def F3(b7:List LO)(gB:List (List Nat)):nj:=
 let ms:=bg b7.length gB;let all:=List.range b7.length;let A5:=all.filter fun i=>!(lu b7 i)
 F0 b7 ms all A5 (A5.length+1) []
def kG(md:Region.Mode)(ops:Array Oper):List (List Nat):=ops.toList.map fun o=>(o.after.toList.filter (Region.binds md)).map (·.on)
def uz(P:Program)(ops:Array Oper):List Region.Mode:=if(P.follows .mixedOrders|| !(Region.departs ops))=true then [.any]else [.text,.gc]
def uW(P:Program)(b7:List LO)(ops:Array Oper):Option (List nj):=
 let ms:=uz P ops;let s:=F3 b7 (kG .any ops)
 if(ms.all fun md=>qF b7 (kG md ops) s)=true then some [s]
 else
  let ss:=ms.map fun md=>F3 b7 (kG md ops)
  if(ms.all fun md=>ss.any fun s=>qF b7 (kG md ops) s)=true then some ss else none
def dQ(P:Program):Code->Option LC
 | .skip=>some .skip
 | .region _ ops true=>do
  let b7<-me P ops ops.toList
  some (.bX b7 (<-uW P b7 ops))
 | .region _ ops false=>do some (.ai (<-me P ops ops.toList))
 | .seq a b=>do some (.seq (<-dQ P a) (<-dQ P b))
 | .cond x a b=>do some (.cond (<-bt x) (<-dQ P a) (<-dQ P b))
 | .block id b=>do some (.block id (<-dQ P b))
 | .loop b=>do some (.loop (<-dQ P b))
 | .exit id=>some (.exit id)
 | .ret=>some .ret
 | .rangeFunc f ps a c=>do
  match ps.toList with
  | [p]=>
   let la<-dQ P a;let lc<-dQ P c
   if(la.qD&&lc.qD)=true then some (.xd (<-bt f) p la lc)else none
  |_=>none
 |_=>none
def nT(P:Program):List ResultVar->Option (List Rv)
 | []=>some []
 | .tmp t::r=>do some (.tmp t::(<-nT P r))
 | .cell a t::r=>do some (.cell (<-ep P t) (<-eL P t) a::(<-nT P r))
def bx(P:Program)(fn:Func):Option LF:=do
 some ⟨fn.ntmps,<-nT P fn.results.toList,<-dQ P (<-fn.body)⟩
inductive Ex where
 |normal
 |exit (id:Nat)
 |ret
def put(d:Option Nat)(v:CV)(e:List CV)(K:List CV->Prop):Prop:=
 match d with
 |none=>K e
 |some d=>fV v fun v=>iI (bb e d v) K
def F4(P:Program)(o:LO)(ih:(List CV->Mem->Prop)->List CV->Mem->Prop)(K:List CV->Mem->Prop)(e:List CV)(m:Mem):Prop:=
  match o.guard with
  |none=>step P o.AN e m fun v m'=>iI m' fun m'=>put o.dst v e fun e'=>ih K e' m'
  |some (s,jA)=>
   match jQ e s with
   | .undef=>put o.dst .undef e fun e'=>ih K e' m
   | .rv (.one (.aa (.val (.bool t))))=>bB t
    (iI (bb e s (ax true)) fun e=>match jA with
     |true=>step P o.AN e m fun v m'=>iI m' fun m'=>put o.dst v e fun e'=>ih K e' m'
     |false=>put o.dst .undef e fun e'=>ih K e' m)
    (iI (bb e s (ax false)) fun e=>match jA with
     |false=>step P o.AN e m fun v m'=>iI m' fun m'=>put o.dst v e fun e'=>ih K e' m'
     |true=>put o.dst .undef e fun e'=>ih K e' m)
   |_=>False
def Hy(P:Program)(l:List LO):(List CV->Mem->Prop)->List CV->Mem->Prop:=
 @List.rec LO (fun _=>(List CV->Mem->Prop)->List CV->Mem->Prop) (fun K e m=>K e m) (fun o _ ih K e m=>F4 P o ih K e m) l
theorem xM{P:Program}{o:LO}{r:List LO}{K:List CV->Mem->Prop}{e:List CV}{m:Mem}:Hy P (o::r) K e m=F4 P o (Hy P r) K e m:=rfl
def nl(P:Program)(lo:LO)(e:List CV)(m:Mem)(K:List CV->CV->Mem->Prop):Prop:=
 match lo.guard with
 |none=>step P lo.AN e m fun v m'=>iI m' fun m'=>K e v m'
 |some (s,jA)=>match jQ e s with
  | .undef=>K e .undef m
  | .rv (.one (.aa (.val (.bool t))))=>bB t
   (iI (bb e s (ax true)) fun e=>match jA with
    |true=>step P lo.AN e m fun v m'=>iI m' fun m'=>K e v m'
    |false=>K e .undef m)
   (iI (bb e s (ax false)) fun e=>match jA with
    |false=>step P lo.AN e m fun v m'=>iI m' fun m'=>K e v m'
    |true=>K e .undef m)
  |_=>False
def uX(j:Nat):List (Nat×LO×List CV×CV)->Option (LO×List CV×CV)
 | []=>none
 |(i,x)::r=>match Nat.beq i j with|true=>some x|false=>uX j r
def Uw(P:Program)(m:Mem)(dZ:List (Nat×LO×List CV×CV))(l:List Nat):Prop:=
 @List.rec Nat (fun _=>Prop) True (fun j _ ih=>(ok (uX j dZ) fun x=>nl P x.1 x.2.1 m fun _ v _=>v=x.2.2)/\ih) l
theorem Ki{P:Program}{m:Mem}{dZ:List (Nat×LO×List CV×CV)}{j:Nat}{r:List Nat}:Uw P m dZ (j::r)=((ok (uX j dZ) fun x=>nl P x.1 x.2.1 m fun _ v _=>v=x.2.2)/\Uw P m dZ r):=rfl
def F5(P:Program)(b7:List LO)(i:Nat)(Ka:Option (List Nat))(ih:List (Nat×LO×List CV×CV)->(List CV->Mem->Prop)->List CV->Mem->Prop)(dZ:List (Nat×LO×List CV×CV))(K:List CV->Mem->Prop)(e:List CV)(m:Mem):Prop:=
 ok (dd b7 i) fun lo=>nl P lo e m fun e1 v m'=>put lo.dst v e1 fun e'=>
  match Ka with
  |none=>ih ((i,lo,e,v)::dZ) K e' m'
  |some l=>Uw P m' dZ l/\ih dZ K e' m'
def t8(P:Program)(b7:List LO)(Yg:nj):List (Nat×LO×List CV×CV)->(List CV->Mem->Prop)->List CV->Mem->Prop:=
 @nj.rec (fun _=>List (Nat×LO×List CV×CV)->(List CV->Mem->Prop)->List CV->Mem->Prop) (fun _ K e m=>K e m)
  (fun i Ka _ ih dZ K e m=>F5 P b7 i Ka ih dZ K e m) (fun _ _ Rx Ry dZ K e m=>Rx dZ K e m/\Ry dZ K e m) Yg
theorem xN{P:Program}{b7:List LO}{i:Nat}{Ka:Option (List Nat)}{r:nj}{dZ:List (Nat×LO×List CV×CV)}{K:List CV->Mem->Prop}{e:List CV}{m:Mem}:
  t8 P b7 (.cons i Ka r) dZ K e m=F5 P b7 i Ka (t8 P b7 r) dZ K e m:=rfl
theorem Kj{P:Program}{b7:List LO}{a b:nj}{dZ:List (Nat×LO×List CV×CV)}{K:List CV->Mem->Prop}{e:List CV}{m:Mem}:
  t8 P b7 (.xJ a b) dZ K e m=(t8 P b7 a dZ K e m/\t8 P b7 b dZ K e m):=rfl
def Rz(x:X)(v:CV)(e:List CV):List CV:=
 match x with
 | .t n=>bb e n v
 | .c _=>e
def iL:Nat->List (Nat×CV)->List CV
 |n,as=>go n as (fT n .aq)
 where go:Nat->List (Nat×CV)->List CV->List CV
 |_,[],e=>e
 |n,(s,v)::r,e=>bb (go n r e) s v
inductive mf:Mem->Mem->Prop
 |nil (m:Mem):mf m []
 |cons {b b':Bk} {m m':Mem} (h:b'=b\/b'= .aW) (hm:mf m m'):mf (b::m) (b'::m')
def CC.dA(n:Nat):CC->Prop
 | .ptr id _=>id<n
 | .mM id _ _ _=>id<n
 | .row id _ _ _=>id<n
 | .map id=>id<n
 | .fn _ ei=>∀id,id∈ei->id<n
 |_=>True
def RV.dA(n:Nat):RV->Prop
 | .one c=>c.dA n
 | .agg cs=>∀c,c∈cs->c.dA n
def CV.dA(n:Nat):CV->Prop
 | .rv r=>r.dA n
 | .bK rs=>∀r,r∈rs->r.dA n
 |_=>True
def Bk.dA(n:Nat):Bk->Prop
 | .aW=>True
 | .var cs=>∀c,c∈cs->c.dA n
 | .row _ elems=>∀cs,cs∈elems->∀c,c∈cs->c.dA n
 | .mp es=>∀e,e∈es->e.val.dA n
 | .it _ _=>True
structure Kk(n0:Nat)(s s':St):Prop where
 n0:n0<=s'.mem.length
 len:s'.a8.length=s.a8.length
 a8:∀(i:Nat)v,s'.a8[i]? =some v->v= .aq\/(s.a8[i]? =some v/\(s'.mem.length=s.mem.length\/v.dA s'.mem.length))
 mem:mf s.mem s'.mem
 jG:s'.mem.length=s.mem.length\/∀b,b∈s'.mem->b.dA s'.mem.length
structure RA(n0:Nat)(ρ:bQ)(m:Mem)(ρ':bQ)(m':Mem):Prop where
 aV:∀id,id<n0->ρ'.aV (.ar id)=ρ.aV (.ar id)
 S:∀b,ρ.S b->ρ'.S b
 S':∀b,ρ'.S b->ρ.S b\/∃k,Live ρ m k/\(ρ.aV k).b=b
 aQ:∀k,Live ρ' m' k->∃k0,Live ρ m k0/\(ρ.aV k0).b=(ρ'.aV k).b
structure View(n0:Nat)(s s':St):Prop where
 hn:n0<=s'.mem.length
 len:s'.a8.length=s.a8.length
 go:∀(ρ:bQ)(w:World),aL ρ s.mem w->∃ρ',aL ρ' s'.mem w/\RA n0 ρ s.mem ρ' s'.mem/\∀(i:Nat)c',s'.a8[i]? =some c'->∃c,s.a8[i]? =some c/\∀v,cm ρ w c v->cm ρ' w c' v
def pM(f:(Ex->St->Prop)->St->Prop)(K:Ex->St->Prop)(ex:Ex)(s:St):Prop:=
 match ex with
 | .normal=>f K s
 | .exit id=>K (.exit id) s
 | .ret=>K .ret s
def Dq(id:Nat)(K:Ex->St->Prop)(ex:Ex)(s:St):Prop:=
 match ex with
 | .normal=>K .normal s
 | .exit jH=>bB (Nat.beq jH id) (K .normal s) (K (.exit jH) s)
 | .ret=>K .ret s
def F6(n0:Nat){α:Type}(J:α->Prop)(S:α->St)(μ:α->Nat)(n:Nat)(K:Ex->St->Prop)(ex:Ex)(s:St):Prop:=
 match ex with
 | .normal=>∃a,J a/\μ a<n/\View n0 s (S a)
 | .exit id=>K (.exit id) s
 | .ret=>K .ret s
def HA(K:Ex->St->Prop)(e:List CV)(m:Mem):Prop:=K .normal ⟨e,m⟩
def pl:Mem->List Nat->Mem
 |m,[]=>m
 |m,id::r=>pl (bb m id .aW) r
def y6(m:Mem):List Nat->List Value->Prop
 | [],[]=>True
 |id::r,v::vs=>(dd m id=some (.var [.aa (.val v)])/\cZ v=true)/\y6 m r vs
 |_,_=>False
def qG(as:List (Nat×Nat)):List Value:=as.map fun a=>Value.pointer (some ⟨a.1,a.2,none⟩)
def Qp(P:Program)(l:Nat)(args:Array Value)(W:World)(R:Ending->World->Prop):Prop:=
 ∃fn tmps assign body,(Instr.yield l args).run P W= .ok (.round l fn tmps assign body) W/\RoundIn Fence.wide 0 P l fn tmps assign body W R
def Ux(P:Program)(gf:Nat)(cs:List Value)(xs:List ByteArray):Prop:=
 (∃fn,P.funcs[gf]? =some fn/\fn.body.isSome=true/\(fn.name== "runtime.NumGoroutine")=false)/\
 ∀(l:Nat)(as:List (Nat×Nat))(W:World)(J:Nat->World->Prop)(Jx:World->Prop),as.length=cs.length->(as.map (·.1)).Nodup->
  (∀(i:Nat)a v,as[i]? =some a->cs[i]? =some v->W.cell? ⟨a.1,a.2,none⟩=some v/\W.frozen? ⟨a.1,a.2,none⟩=false)->
  (∀k W W',J k W->W.heap.size<=W'.heap.size->(∀b,b<W.heap.size->(∀a,a∈as->b≠a.1)->W'.heap[b]? =W.heap[b]?)->W'.os=W.os->W'.tape=W.tape->W'.output=W.output->J k W')->
  (∀W W',Jx W->W.heap.size<=W'.heap.size->(∀b,b<W.heap.size->(∀a,a∈as->b≠a.1)->W'.heap[b]? =W.heap[b]?)->W'.os=W.os->W'.tape=W.tape->W'.output=W.output->Jx W')->
  (∀k y W,xs[k]? =some y->J k W->Qp P l #[.string y] W fun e W'=>
   (e= .returned (.bool true)/\J (k+1) W'/\W.heap.size<=W'.heap.size/\∀a,a∈as->W'.heap[a.1]? =W.heap[a.1]?)\/(e= .returned (.bool false)/\Jx W'))->
  J 0 W->
  CallsIn Fence.wide 0 P gf (#[.func (.yield l) #[] #[]]++(qG as).toArray) W fun e W'=>(∃v,e= .returned v)/\(J xs.length W'\/Jx W')
def Yh(n0:Nat){α:Type}(J:Nat->α->Prop)(S:α->St)(k:Nat)(a8:List CV)(K:Ex->St->Prop)(ex:Ex)(s:St):Prop:=
 match ex with
 | .normal=>∃a,J (k+1) a/\View n0 ⟨a8,s.mem⟩ (S a)
 | .exit id=>K (.exit id) ⟨a8,s.mem⟩
 | .ret=>K .ret ⟨a8,s.mem⟩
def Oe(P:Program)(b7:List LO)(K:Ex->St->Prop)(s:St):List nj->Prop
 | []=>True
 | [x]=>t8 P b7 x [] (HA K) s.a8 s.mem
 |x::y::r=>t8 P b7 x [] (HA K) s.a8 s.mem/\Oe P b7 K s (y::r)
def aw(P:Program)(n0:Nat):LC->(Ex->St->Prop)->St->Prop
 | .skip,K,s=>K .normal s
 | .ai ops,K,s=>Hy P ops (HA K) s.a8 s.mem
 | .bX b7 pH,K,s=>Oe P b7 K s pH
 | .seq a b,K,s=>aw P n0 a (pM (aw P n0 b) K) s
 | .cond x a b,K,s=>match x.ev s.a8 with
  | .rv (.one (.aa (.val (.bool t))))=>bB t
   (iI (Rz x (ax true) s.a8) fun e=>aw P n0 a K ⟨e,s.mem⟩)
   (iI (Rz x (ax false) s.a8) fun e=>aw P n0 b K ⟨e,s.mem⟩)
  |_=>False
 | .block id b,K,s=>aw P n0 b (Dq id K) s
 | .loop b,K,s=>∃(α:Type)(J:α->Prop)(S:α->St)(μ:α->Nat),(∃a,J a/\View n0 s (S a))/\∀a,J a->aw P n0 b (F6 n0 J S μ (μ a) K) (S a)
 | .exit id,K,s=>K (.exit id) s
 | .ret,K,s=>K .ret s
 | .cu a,K,s=>∃s',View n0 s s'/\aw P n0 a K s'
 | .xd x p la lb,K,s=>∃(gf:Nat)(jG:List Nat)(cs:List Value)(xs:List ByteArray)(α:Type)(J:Nat->α->Prop)(S:α->St),
   x.ev s.a8= .rv (.one (.fn gf jG))/\y6 s.mem jG cs/\(jG.Nodup/\jG≠[])/\Ux P gf cs xs/\(∃a,J 0 a/\View n0 ⟨s.a8,pl s.mem jG⟩ (S a))/\
   (∀k y a,xs[k]? =some y->J k a->pI (S a).mem fun n1=>aw P n1 la (fun ex s2=>match ex with
    | .normal=>pI s2.mem fun n2=>aw P n2 lb (Yh n0 J S k (S a).a8 K) s2
    |_=>False) ⟨bb (S a).a8 p (eK y),(S a).mem⟩)/\
   ∀a,J xs.length a->K .normal (S a)
def A6(P:Program)(s:St):List Rv->(List RV->Prop)->Prop
 | [],K=>K []
 | .tmp t::r,K=>ok (Dj (jQ s.a8 t)) fun v=>A6 P s r fun vs=>K (v::vs)
 | .cell agg n t::r,K=>uR s.a8 s.mem agg n (jQ s.a8 t) fun v=>ok (Dj v) fun v=>A6 P s r fun vs=>K (v::vs)
def RB:List RV->CV
 | [r]=>.rv r
 |rs=>.bK rs
def mg(P:Program)(kD:List Rv)(K:CV->Mem->Prop)(ex:Ex)(s:St):Prop:=
 match ex with
 | .exit _=>False
 |_=>A6 P s kD fun vs=>K (RB vs) s.mem
def body(P:Program)(lf:LF)(args:List CV)(m:Mem)(K:CV->Mem->Prop):Prop:=
 iI (gh args (fT (lf.n-args.length) .undef)) fun e=>pI m fun n0=>aw P n0 lf.code (mg P lf.kD K) ⟨e,m⟩
abbrev qm(d s:Nat):LO:=⟨some d,.aH (.t s),none⟩
abbrev qu(d:Nat)(i:I):LO:=⟨some d,i,none⟩
abbrev qw(i:I):LO:=⟨none,i,none⟩
abbrev qg(d:Nat)(i:I)(s:Nat)(b:Bool):LO:=⟨some d,i,some (s,b)⟩
abbrev qf(d k s:Nat):LO:=⟨some d,.br k (.t s),none⟩
abbrev ql(d s:Nat):LO:=⟨some d,.load false 1 (.t s),none⟩
abbrev qL(d n s:Nat):LO:=⟨some d,.load true n (.t s),none⟩
abbrev qi(n:Int):X:= .c (.rv (.one (.aa (.val (.int .i64 n)))))
abbrev qb(b:Bool):X:= .c (.rv (.one (.aa (.val (.bool b)))))
abbrev qe:X:= .c (.rv (.one .aI))
abbrev qd(n:Int):CC:= .aa (.val (.int .i64 n))
abbrev qc(f:Nat)(a:List X):I:= .call (.c (.rv (.one (.fn f [])))) a
instance(n:Nat):OfNat X n:=⟨.t n⟩
theorem aZ{α:Type}:∀(l:List α)(i:Nat),dd l i=l[i]?
 | [],_=>by simp[dd]
 |_::_,0=>rfl
 |_::r,k+1=>by simpa[dd]using aZ r k
theorem bj{α:Type}:∀(l:List α)(i:Nat)(x:α),bb l i x=l.set i x
 | [],_,_=>rfl
 |_::_,0,_=>rfl
 |a::r,k+1,x=>by simp[bb,bj r k x]
theorem b9{α:Type}:∀(a b:List α),gh a b=a++b
 | [],_=>rfl
 |x::r,b=>by simp[gh,b9 r b]
theorem fG{α:Type}:∀(n:Nat)(x:α),fT n x=List.replicate n x
 |0,_=>rfl
 |n+1,x=>by simp[fT,fG n x,List.replicate_succ]
theorem eW{α:Type}{β:Sort _}:∀(l:List α)(k:List α->β),iI l k=k l
 | [],_=>rfl
 |x::r,k=>eW r fun r'=>k (x::r')
theorem Uy{β:Sort _}(v:CV)(k:CV->β):fV v k=k v:=by
 cases v with
 |rv r=>
  cases r with
  |one c=>rfl
  |agg cs=>exact eW cs _
 |_=>rfl
theorem lv:∀(e:List CV)(i:Nat),jQ e i=(e[i]?).getD .aq
 | [],_=>by simp[jQ]
 |_::_,0=>rfl
 |_::r,k+1=>by simpa[jQ]using lv r k
theorem bh{α:Type}{o:Option α}{K:α->Prop}:ok o K↔∃x,o=some x/\K x:=by
 cases o<;>simp[ok]
theorem cE{t:Bool}{A B:Prop}:bB t A B↔(t=true/\A)\/(t=false/\B):=by
 cases t<;>simp[bB]
theorem A7{β:Sort _}(m0:Mem):∀(m:Mem)(c n:Nat)(k:Nat->β),m0.length=c+m.length->uP m0 m (List.range' c n) k=k m0.length
 | [],c,0,k,_=>by simp[uP]
 | [],c,n+1,k,h=>by simp[uP,acR,h]
 |_::r,c,0,k,h=>by simp[uP]
 |_::r,c,n+1,k,h=>by
  rw[acR,uP];exact A7 m0 r (c+1) n k (by simp at h;omega)
theorem ik{β:Sort _}(m:Mem)(k:Nat->β):pI m k=k m.length:=by have:=A7 m m 0 64 k aG;exact this
theorem kH:∀{cs:List CC}{j n:Nat}{l:List CC},iJ cs j n=some l->l.length=n/\∀i,i<n->cs[j+i]? =l[i]?
 |cs,0,0,l,h=>by cases cs<;>simp[iJ]at h<;>subst h<;>simp
 | [],0,n+1,l,h=>by simp[iJ]at h
 | [],j+1,n,l,h=>by cases n<;>simp[iJ]at h
 |c::cs,0,n+1,l,h=>by
  simp only[iJ]at h;cases hr:iJ cs 0 n with
  |none=>simp[hr]at h
  |some l'=>
   simp[hr]at h;subst h;obtain⟨h1,h2⟩:=kH hr;refine⟨by simp[h1],fun i hi=>?_⟩
   cases i with
   |zero=>simp
   |succ i=>have:=h2 i (by omega);simpa using this
 |c::cs,j+1,n,l,h=>by
  have h':iJ cs j n=some l:=by cases n<;>simpa[iJ]using h
  obtain⟨h1,h2⟩:=kH h';refine⟨h1,fun i hi=>?_⟩
  have:=h2 i hi;rw[show j+1+i=(j+i)+1 by omega]
  simpa using this
theorem jh:∀{cs:List CC}{j:Nat}{xs l:List CC},gp cs j xs=some l->
  l.length=cs.length/\j+xs.length<=cs.length/\∀i,l[i]? =if j<=i/\i<j+xs.length then xs[i-j]? else cs[i]?
 |cs,0,[],l,h=>by
  cases cs<;>simp[gp]at h<;>subst h
  .simp
  .refine⟨rfl,aG,fun i=>?_⟩
   rw[if_neg aG]
 | [],0,x::xs,l,h=>by simp[gp]at h
 | [],j+1,xs,l,h=>by cases xs<;>simp[gp]at h
 |c::cs,0,x::xs,l,h=>by
  simp only[gp]at h;cases hr:gp cs 0 xs with
  |none=>simp[hr]at h
  |some l'=>
   simp[hr]at h;subst h;obtain⟨h1,h2,h3⟩:=jh hr;refine⟨by simp[h1],by simp at h2⊢;omega,fun i=>?_⟩
   cases i with
   |zero=>simp
   |succ i=>
    have:=h3 i;simp only[Wi,true_and,abx,aci,aar,abY]at this⊢;rw[this];simp
 |c::cs,j+1,xs,l,h=>by
  have h':(gp cs j xs).map (c:: ·)=some l:=by
   rw[<-h];cases hr:gp cs j xs<;>cases xs<;>simp[gp,hr]
  cases hr:gp cs j xs with
  |none=>simp[hr]at h'
  |some l'=>
   simp[hr]at h';subst h';obtain⟨h1,h2,h3⟩:=jh hr;refine⟨by simp[h1],by simp;omega,fun i=>?_⟩
   cases i with
   |zero=>rw[if_neg om];simp
   |succ i=>
    have:=h3 i;simp only[abY,this];by_cases hc:j<=i/\i<j+xs.length
    .rw[if_pos hc,if_pos om,show i+1-(j+1)=i-j by omega]
    .rw[if_neg hc,if_neg om]
theorem uY:∀{ds:List Dt}{n:Nat}{l:List CC},uN ds n=some l->l.length=n/\∀i,i<n->∃d,ds[i]? =some d/\l[i]? =some (.aa d)
 |ds,0,l,h=>by cases ds<;>simp[uN]at h<;>subst h<;>simp
 | [],n+1,l,h=>by simp[uN]at h
 |d::ds,n+1,l,h=>by
  simp only[uN]at h;cases hr:uN ds n with
  |none=>simp[hr]at h
  |some l'=>
   simp[hr]at h;subst h;obtain⟨h1,h2⟩:=uY hr;refine⟨by simp[h1],fun i hi=>?_⟩
   cases i with
   |zero=>exact⟨d,aG,aG⟩
   |succ i=>simpa using h2 i om
theorem uZ:∀{l:List CC},iK l=true->∀c,c∈l->∀esz e,c≠.gO esz e
 | [],_,c,hc,_,_=>by simp at hc
 |x::r,h,c,hc,esz,e=>by
  cases x with
  |gO a b=>simp[iK]at h
  |_=>
   rcases abo.1 hc with rfl|hc
   .simp
   .exact uZ (l:=r) (by simpa[iK]using h) c hc esz e
def Bk.RC:Bk->Prop
 | .row _ elems=>∀(i:Nat)cs(j:Nat)c,elems[i]? =some cs->cs[j]? =some c->∀esz e,c≠.gO esz e
 |_=>True
theorem bC.y7{ρ:bQ}{w:World}{c:CC}{v:Value}(h:bC ρ w .none c v)(esz:Nat)(e:List (List Dt)):c≠.gO esz e:=by rintro rfl;obtain⟨_,_,_,e,_⟩:=h;cases e
theorem bC.u0{ρ:bQ}{w:World}{c:CC}{v:Value}(h:bC ρ w .none c v)(pos:Option (Nat×Nat×Nat)):bC ρ w pos c v:=by
 cases c<;>first|exact h|(obtain⟨_,_,_,e,_⟩:=h;cases e)
theorem bC.Uz{ρ:bQ}{w:World}{pos:Option (Nat×Nat×Nat)}{c:CC}{v:Value}(hn:∀esz e,c≠.gO esz e)(h:bC ρ w pos c v):bC ρ w .none c v:=by
 cases c<;>first|exact h|exact absurd rfl (hn _ _)
def bQ.push(ρ:bQ)(l:wW):bQ:=
 {n:=ρ.n+1,aV:=fun k=>if k.id=ρ.n then l else ρ.aV k,S:=ρ.S}
theorem bQ.eX(ρ:bQ)(l:wW){k:jz}(h:k.id<ρ.n):(ρ.push l).aV k=ρ.aV k:=by simp only[bQ.push];rw[if_neg om]
theorem bQ.gC(ρ:bQ)(l:wW):(ρ.push l).aV (.ar ρ.n)=l:=by simp[bQ.push,jz.id]
structure eD(w w':World):Prop where
 heap:∀b,b<w.heap.size->w'.heap[b]? =w.heap[b]?
 size:w.heap.size<=w'.heap.size
 os:w'.os=w.os
 tape:w'.tape=w.tape
 output:w'.output=w.output
theorem eD.alloc(w:World)(o:Obj):eD w (w.alloc o):=⟨fun b h=>heap_alloc_old w o b h,aG,rfl,rfl,rfl⟩
theorem eD.drew(w:World):eD w w.drew:=⟨fun _ _=>rfl,SS _,rfl,rfl,rfl⟩
theorem eD.trans{a b c:World}(h:eD a b)(k:eD b c):eD a c:=
 ⟨fun x hx=>(k.heap x (abh hx h.size)).trans (h.heap x hx),abT h.size k.size,k.os.trans h.os,k.tape.trans h.tape,k.output.trans h.output⟩
theorem d8.cQ{ρ ρ':bQ}{w w':World}{id:Nat}{bk:Bk}(g:iD ρ w ρ' w')(hid:id<ρ.n)(hb:bk≠.aW->((∃esz elems,bk= .row esz elems)->0<(ρ.aV (.ar id)).cap)->w'.heap[(ρ.aV (.ar id)).b]? =w.heap[(ρ.aV (.ar id)).b]?)(h:d8 ρ w id bk):d8 ρ' w' id bk:=by
 have hl:ρ'.aV (.ar id)=ρ.aV (.ar id):=g.aV (.ar id) hid;cases bk with
 |aW=>trivial
 |var cs=>
  obtain⟨cur,hc,hd⟩:=h;refine⟨cur,by rw[hl];exact hc.dn (hb aG (by rintro⟨_,_,e⟩;cases e)),fun j c hj=>?_⟩
  obtain⟨u,hu,cz⟩:=hd j c hj;exact⟨u,by rw[hl];exact hu,cz.cQ g aG⟩
 |row esz elems=>
  obtain⟨h2,h3,h4,h5,cj⟩:=h;refine⟨by rw[hl];exact h2,by rw[hl];exact h3,by rw[hl];exact h4,h5,fun dz=>?_⟩
  rw[hl]at dz;obtain⟨cur,hc,h1,h6⟩:=cj dz;refine⟨cur,by rw[hl];exact hc.dn (hb aG fun _=>dz),by rw[hl];exact h1,fun i cs j c hi hj=>?_⟩
  obtain⟨u,hu,cz⟩:=h6 i cs j c hi hj;exact⟨u,by rw[hl];exact hu,cz.cQ g (by rintro jH i' j' e;cases e;exact hid)⟩
 |mp es=>
  obtain⟨c6,clock,hc,h1,h2⟩:=h;refine⟨c6,clock,⟨by rw[hl,hb aG (by rintro⟨_,_,e⟩;cases e)];exact hc.1,hc.2⟩,h1,fun i e hi=>?_⟩
  obtain⟨e',tm,hk,hd⟩:=h2 i e hi;exact⟨e',tm,hk,hd.cQ g⟩
 |it cur left=>
  obtain⟨mb,seen,ck,c6,h2,h3,h4,h5,h6⟩:=h;exact⟨mb,seen,ck,c6,by rw[hl,hb aG (by rintro⟨_,_,e⟩;cases e)];exact h2,by rw[hl];exact h3,g.S _ h4,by rw[g.heap mb h4];exact h5,h6⟩
theorem y3.cQ{ρ ρ':bQ}{w w':World}(g:iD ρ w ρ' w'){l:wW}{esz:Nat}{elems:List (List Dt)}(hb:w'.heap[l.b]? =w.heap[l.b]?)(h:y3 ρ w l esz elems):y3 ρ' w' l esz elems:=by
 obtain⟨cur,hc,h1,h2,h3⟩:=h;refine⟨cur,hc.dn hb,h1,h2,fun i cs j d hi hj=>?_⟩
 obtain⟨u,hu,hd⟩:=h3 i cs j d hi hj;exact⟨u,hu,hd.mono g.S g.heap⟩
theorem aL.fS{ρ:bQ}{m:Mem}{w:World}(hM:aL ρ m w){id:Nat}{bk:Bk}(h:m[id]? =some bk):id<ρ.n:=by rw[hM.n];exact(Mh.1 h).1
theorem aL.Qq{ρ:bQ}{m:Mem}{w w':World}{bk:Bk}{l:wW}(hM:aL ρ m w)(hw:eD w w')(F7:Live (ρ.push l) (m++ [bk]) (.ar ρ.n)->w.heap.size<=l.b/\l.b<w'.heap.size)(eY:d8 (ρ.push l) w' m.length bk)(hf:bk.RC):aL (ρ.push l) (m++ [bk]) w'/\Ext ρ m w (ρ.push l) (m++ [bk]) w':=by
 have hn:=hM.n;have g:iD ρ w (ρ.push l) w':=⟨by simp[bQ.push],fun k hk=>ρ.eX l hk,fun b hb=>hb,fun b hb=>hw.heap b (hM.S b hb)⟩
 have get:∀{id:Nat}{b:Bk},(m++ [bk])[id]? =some b->(id<ρ.n/\m[id]? =some b)\/(id=ρ.n/\b=bk):=by
  intro id b hb;rcases ZX id m.length with h|h
  .exact .inl ⟨om,by rwa [ZY h]at hb⟩
  .rw[ZW h]at hb;have:id-m.length=0:=by
    rcases abB (id-m.length)with h0|h0
    .exact h0
    .rw[abg (by simp;omega)]at hb;cases hb
   rw[this]at hb;exact .inr ⟨om,by simpa using hb.symm⟩
 have il:∀{id i j esz elems},fJ (m++ [bk]) id i j esz elems->id<ρ.n/\fJ m id i j esz elems:=by
  rintro id i j esz elems ⟨es,rows,cs,hb,hi,hj⟩;rcases get hb with⟨aB,hb⟩|⟨_,rfl⟩
  .exact⟨aB,es,rows,cs,hb,hi,hj⟩
  .exact absurd rfl (hf i cs j _ hi hj esz elems)
 have du:∀k,Live (ρ.push l) (m++ [bk]) k->(k.id<ρ.n/\Live ρ m k)\/k= .ar ρ.n:=by
  intro k hk;cases k with
  |ar id=>
   obtain⟨b,hb,fc,bq⟩:=hk;rcases get hb with⟨aB,hb⟩|⟨rfl,_⟩
   .rw[ρ.eX l (k:= .ar id) aB]at bq;exact .inl ⟨aB,b,hb,fc,bq⟩
   .exact .inr rfl
  |sub id i j=>
   obtain⟨⟨esz,elems,ho⟩,bq⟩:=hk;obtain⟨aB,ho⟩:=il ho;rw[ρ.eX l (k:= .sub id i j) aB]at bq;exact .inl ⟨aB,⟨esz,elems,ho⟩,bq⟩
 have y8:(ρ.push l).aV (.ar ρ.n)=l:=ρ.gC l;refine⟨⟨by simp[bQ.push,hn],fun b hb=>abh (hM.S b hb) hw.size,?_,?_,?_,?_⟩,⟨by simp[bQ.push],fun id hid=>ρ.eX l hid,fun b hb=>hb,fun b hb=>.inl hb,?_,?_,hw.size,hw.os,hw.tape,hw.output⟩⟩
 .intro k hk;rcases du k hk with⟨aB,hk⟩|rfl
  .rw[ρ.eX l aB];exact⟨abh (hM.aQ k hk).1 hw.size,(hM.aQ k hk).2⟩
  .rw[y8];exact⟨(F7 hk).2,fun hs=>by have:=hM.S _ hs;have:=(F7 hk).1;omega⟩
 .intro k k' hk gK he;rcases du k hk with⟨aB,hk⟩|rfl<;>rcases du k' gK with⟨nU,gK⟩|rfl
  .rw[ρ.eX l aB,ρ.eX l nU]at he;exact hM.inj k k' hk gK he
  .rw[ρ.eX l aB,y8]at he;have:=(hM.aQ k hk).1;have:=(F7 gK).1;omega
  .rw[ρ.eX l nU,y8]at he;have:=(hM.aQ k' gK).1;have:=(F7 hk).1;omega
  .rfl
 .intro id b hb;rcases get hb with⟨aB,hb⟩|⟨rfl,rfl⟩
  .exact(hM.bk id b hb).cQ g aB fun fc bq=>hw.heap _ (hM.aQ (.ar id) ⟨b,hb,fc,bq⟩).1
  .rw[hn];exact eY
 .intro id i j esz elems ho bq;obtain⟨aB,ho⟩:=il ho;rw[ρ.eX l (k:= .sub id i j) aB]at bq⊢;exact(hM.gO id i j esz elems ho bq).cQ g (hw.heap _ (hM.aQ (.sub id i j) ⟨⟨esz,elems,ho⟩,bq⟩).1)
 .intro k hk;rcases du k hk with⟨aB,hk⟩|rfl
  .exact .inr ⟨k,hk,(by rw[ρ.eX l aB])⟩
  .exact .inl (by rw[y8];exact(F7 hk).1)
 .intro b hb _;exact hw.heap b hb
theorem aL.push{ρ:bQ}{m:Mem}{w w':World}{bk:Bk}{l:wW}(hM:aL ρ m w)(hw:eD w w')(h1:w.heap.size<=l.b)(h2:l.b<w'.heap.size)(eY:d8 (ρ.push l) w' m.length bk)(hf:bk.RC):aL (ρ.push l) (m++ [bk]) w'/\Ext ρ m w (ρ.push l) (m++ [bk]) w':=
 hM.Qq hw (fun _=>⟨h1,h2⟩) eY hf
structure kI(w w':World)(g:Nat):Prop where
 heap:∀b,b≠g->w'.heap[b]? =w.heap[b]?
 size:w'.heap.size=w.heap.size
 os:w'.os=w.os
 tape:w'.tape=w.tape
 output:w'.output=w.output
theorem aL.RD{ρ:bQ}{m:Mem}{w w':World}{id:Nat}{bk Dr:Bk}(hM:aL ρ m w)(hid:m[id]? =some bk)(cG:Live ρ m (.ar id))(hw:kI w w' (ρ.aV (.ar id)).b)(eY:iD ρ w ρ w'->d8 ρ w' id Dr)(mh:∀i j esz e,fJ (m.set id Dr) id i j esz e->fJ m id i j esz e):aL ρ (m.set id Dr) w'/\Ext ρ m w ρ (m.set id Dr) w':=by
 have aB:id<m.length:=(Mh.1 hid).1;have hS:=(hM.aQ _ cG).2;have g:iD ρ w ρ w':=⟨SS _,fun _ _=>rfl,fun _ h=>h,fun b hb=>hw.heap b fun e=>hS (e▸hb)⟩
 have get:∀{k:Nat}{b:Bk},(m.set id Dr)[k]? =some b->(k≠id/\m[k]? =some b)\/(k=id/\b=Dr):=by
  intro k b hb;by_cases hk:k=id
  .subst hk;rw[Wl aB]at hb;exact .inr ⟨rfl,by simpa using hb.symm⟩
  .rw[ZZ (Ne.symm hk)]at hb;exact .inl ⟨hk,hb⟩
 have il:∀{k i j esz e},fJ (m.set id Dr) k i j esz e->fJ m k i j esz e:=by
  intro k i j esz e ho;by_cases hk:k=id
  .subst hk;exact mh i j esz e ho
  .obtain⟨es,rows,cs,hb,hi,hj⟩:=ho;rw[ZZ (Ne.symm hk)]at hb;exact⟨es,rows,cs,hb,hi,hj⟩
 have du:∀k,Live ρ (m.set id Dr) k->Live ρ m k:=by
  intro k hk;cases k with
  |ar k=>
   obtain⟨b,hb,hn,bq⟩:=hk;rcases get hb with⟨_,hb⟩|⟨rfl,_⟩
   .exact⟨b,hb,hn,bq⟩
   .exact cG
  |sub k i j=>
   obtain⟨⟨esz,e,ho⟩,bq⟩:=hk;exact⟨⟨esz,e,il ho⟩,bq⟩
 refine⟨⟨by simp[hM.n],fun b hb=>by rw[hw.size];exact hM.S b hb,fun k hk=>by rw[hw.size];exact hM.aQ k (du k hk),fun k k' hk gK=>hM.inj k k' (du k hk) (du k' gK),?_,?_⟩,
  ⟨SS _,fun _ _=>rfl,fun _ h=>h,fun _ h=>.inl h,fun k hk=>.inr ⟨k,du k hk,rfl⟩,fun b _ hk=>hw.heap b fun e=>hk _ cG e.symm,by rw[hw.size];exact SS _,hw.os,hw.tape,hw.output⟩⟩
 .intro k b hb;rcases get hb with⟨UA,hb⟩|⟨rfl,rfl⟩
  .refine(hM.bk k b hb).cQ g (hM.fS hb) fun hn bq=>hw.heap _ fun e=>?_
   have:=hM.inj (.ar k) (.ar id) ⟨b,hb,hn,bq⟩ cG e;injection this with this
   exact UA this
  .exact eY g
 .intro k i j esz e ho bq;have im:=il ho;refine(hM.gO k i j esz e im bq).cQ g (hw.heap _ fun he=>?_)
  have:=hM.inj (.sub k i j) (.ar id) ⟨⟨esz,e,im⟩,bq⟩ cG he;cases this
theorem bC.cut{ρ:bQ}{w:World}{pos:Option (Nat×Nat×Nat)}{c:CC}{v:Value}{n:Nat}(h:bC ρ w pos c v)(hi:c.dA n):bC {ρ with n:=n} w pos c v:=by
 cases c<;>simp only[bC,CC.dA]at h hi⊢
 case ptr=>exact⟨hi,h.2⟩
 case mM=>exact⟨hi,h.2⟩
 case row=>exact⟨hi,h.2⟩
 case map=>exact⟨hi,h.2⟩
 case fn=>exact⟨hi,h.2⟩
 all_goals exact h
theorem dP.cut{ρ:bQ}{w:World}{r:RV}{v:Value}{n:Nat}(h:dP ρ w r v)(hi:r.dA n):dP {ρ with n:=n} w r v:=by
 cases r with
 |one c=>exact bC.cut h hi
 |agg cs=>
  obtain⟨vs,hv,hl,hc⟩:=h;exact⟨vs,hv,hl,fun i c hj=>let⟨u,hu,hd⟩:=hc i c hj;⟨u,hu,hd.cut (hi c (Rq hj))⟩⟩
theorem cm.cut{ρ:bQ}{w:World}{c:CV}{v:Value}{n:Nat}(h:cm ρ w c v)(hi:c.dA n):cm {ρ with n:=n} w c v:=by
 cases c with
 |aq=>trivial
 |undef=>exact h
 |rv r=>exact dP.cut h hi
 |bK rs=>
  obtain⟨vs,hv,hl,hc⟩:=h;exact⟨vs,hv,hl,fun i c hj=>let⟨u,hu,hd⟩:=hc i c hj;⟨u,hu,hd.cut (hi c (Rq hj))⟩⟩
theorem d8.cut{ρ:bQ}{w:World}{id:Nat}{bk:Bk}{n:Nat}(h:d8 ρ w id bk)(hi:bk.dA n):d8 {ρ with n:=n} w id bk:=by
 cases bk with
 |aW=>trivial
 |var cs=>
  obtain⟨cur,hc,hd⟩:=h;exact⟨cur,hc,fun j c hj=>let⟨u,hu,cz⟩:=hd j c hj;⟨u,hu,cz.cut (hi c (Rq hj))⟩⟩
 |row esz elems=>
  obtain⟨h2,h3,h4,h5,cj⟩:=h;refine⟨h2,h3,h4,h5,fun dz=>?_⟩
  obtain⟨cur,hc,h1,h6⟩:=cj dz;exact⟨cur,hc,h1,fun i cs j c h7 h8=>let⟨u,hu,cz⟩:=h6 i cs j c h7 h8;⟨u,hu,cz.cut (hi cs (Rq h7) c (Rq h8))⟩⟩
 |mp es=>
  obtain⟨c6,clock,hc,h1,h2⟩:=h;exact⟨c6,clock,hc,h1,fun i e h7=>let⟨e',tm,hk,hd⟩:=h2 i e h7;⟨e',tm,hk,hd.cut (hi e (Rq h7))⟩⟩
 |it cur left=>exact h
theorem mf.spec{m m':Mem}(h:mf m m'):m'.length<=m.length/\∀(i:Nat)b,m'[i]? =some b->∃b0,m[i]? =some b0/\(b=b0\/b= .aW):=by
 induction h with
 |nil m=>exact⟨aG,fun i b hb=>by simp at hb⟩
 |cons h hm ih=>
  refine⟨by simp[ih.1],fun i b hb=>?_⟩
  cases i with
  |zero=>simp at hb;subst hb;exact⟨_,aG,h⟩
  |succ i=>simpa using ih.2 i b (by simpa using hb)
theorem aL.Kl{ρ:bQ}{m m':Mem}{w:World}(hM:aL ρ m w)(h:mf m m')(Km:∀b,b∈m'->b.dA m'.length):
  aL {ρ with n:=m'.length} m' w/\(∀k,Live {ρ with n:=m'.length} m' k->Live ρ m k):=by
 have hs:=h.spec.2;have il:∀{k i j esz e},fJ m' k i j esz e->fJ m k i j esz e:=by
  rintro k i j esz e ⟨es,rows,cs,hb,hi,hj⟩;obtain⟨b0,xg,rfl|h0⟩:=hs k _ hb
  .exact⟨es,rows,cs,xg,hi,hj⟩
  .cases h0
 have du:∀k,Live {ρ with n:=m'.length} m' k->Live ρ m k:=by
  intro k hk;cases k with
  |ar k=>
   obtain⟨b,hb,hn,bq⟩:=hk;obtain⟨b0,xg,rfl|h0⟩:=hs k _ hb
   .exact⟨_,xg,hn,bq⟩
   .exact absurd h0 hn
  |sub k i j=>
   obtain⟨⟨esz,e,ho⟩,bq⟩:=hk;exact⟨⟨esz,e,il ho⟩,bq⟩
 refine⟨⟨rfl,hM.S,fun k hk=>hM.aQ k (du k hk),fun k k' hk gK=>hM.inj k k' (du k hk) (du k' gK),fun id b hb=>?_,fun id i j esz e ho bq=>hM.gO id i j esz e (il ho) bq⟩,du⟩
 obtain⟨b0,xg,rfl|h0⟩:=hs id b hb
 .exact(hM.bk id _ xg).cut (Km _ (Rq hb))
 .subst h0;trivial
structure bm(ρ:bQ)(w:World)(a8:List CV)(tmps:Array Value):Prop where
 size:tmps.size=a8.length
 k9:∀(i:Nat)c,a8[i]? =some c->∃v,tmps[i]? =some v/\cm ρ w c v
section
variable {P:Program} {ρ:bQ} {m:Mem} {w:World} {a8:List CV} {a:Act}
theorem bm.get(hE:bm ρ w a8 a.tmps)(t:Nat):cm ρ w (jQ a8 t) (a.tmps.getD t Go.undef):=by
 rw[lv];cases h:a8[t]? with
 |none=>trivial
 |some c=>
  obtain⟨v,hv,hd⟩:=hE.k9 t c h;simpa[abP,hv]using hd
theorem pN{v:Value}{c:CC}(h:uT v=some c):bC ρ w .none c v:=by
 unfold uT at h;split at h
 .simp at h;subst h;exact⟨none,rfl⟩
 .split at h
  .rename_i hp;simp at h;subst h;exact dv.val _ hp
  .cases h
theorem aR(hE:bm ρ w a8 a.tmps){x:Operand}{x':X}(h:bt x=some x'):cm ρ w (x'.ev a8) (a.eval x):=by
 cases x with
 |tmp t=>simp[bt]at h;subst h;exact hE.get t
 |const v=>
  simp only[bt,aaI]at h;obtain⟨c,hc,rfl⟩:=h;exact pN hc
 |func f=>simp[bt]at h;subst h;exact⟨aG,rfl⟩
 |global g=>simp[bt]at h
theorem fq{t:TypeId}{n:Nat}(h:eL P t=some n):(sizeOf t).run P w= .ok n w:=by simp only[eL,aaI]at h;obtain⟨i,hi,rfl⟩:=h;simp[sizeOf,typeInfo,hi]
theorem oQ{t:TypeId}{b:Bool}(h:ep P t=some b):(isAgg t).run P w= .ok b w:=by
 simp only[ep,aaI]at h;obtain⟨d,hd,rfl⟩:=h;simp only[isAgg,Sem.run_bind,run_underlying hd,Result.andThen_ok];cases d<;>rfl
theorem lT(b off j:Nat):(⟨b,off,none⟩:Addr).add j=⟨b,off+j,none⟩:=by
 unfold Addr.add;split<;>simp_all
def mO(ρ:bQ)(w:World)(b off:Nat)(l:List CC):Prop:=
 ∀(i:Nat)c,l[i]? =some c->∃u,w.cell? ⟨b,off+i,none⟩=some u/\bC ρ w .none c u
theorem mO.UB:∀{l:List CC}{b off:Nat},mO ρ w b off l->
  ∃vs:List Value,vs.length=l.length/\(∀j v,vs[j]? =some v->w.cell? ((⟨b,off,none⟩:Addr).add j)=some v)/\(∀(i:Nat)c,l[i]? =some c->∃u,vs[i]? =some u/\bC ρ w .none c u)
 | [],b,off,h=>⟨[],rfl,aG,aG⟩
 |c::l,b,off,h=>by
  obtain⟨u,hu,hd⟩:=h 0 c aG;obtain⟨vs,h1,h2,h3⟩:=mO.UB (l:=l) (b:=b) (off:=off+1) (fun i c hi=>by
   have:=h (i+1) c (by simpa using hi)
   rwa [show off+(i+1)=off+1+i by omega]at this)
  refine⟨u::vs,by simp[h1],fun j v hj=>?_,fun i c' hi=>?_⟩
  .rw[lT];cases j with
   |zero=>simp at hj;subst hj;simpa using hu
   |succ j=>
    have:=h2 j v (by simpa using hj)
    rw[lT]at this;rwa [show off+(j+1)=off+1+j by omega]
  .cases i with
   |zero=>simp at hi;subst hi;exact⟨u,aG,hd⟩
   |succ i=>simpa using h3 i c' (by simpa using hi)
theorem pO{t:TypeId}{agg:Bool}{n:Nat}{b off:Nat}{l:List CC}{cv:CV}(ha:ep P t=some agg)(hs:eL P t=some n)(hl:l.length=n)(hc:mO ρ w b off l)(hm:Kb agg l=some cv):∃v,(loadVar t ⟨b,off,none⟩).run P w= .ok v w/\cm ρ w cv v:=by
 obtain⟨vs,h1,h2,h3⟩:=hc.UB;unfold loadVar;simp only[Sem.run_bind,oQ ha,Result.andThen_ok];cases agg with
 |true=>
  simp[Kb]at hm;subst hm;have hr:=run_loadCells_list (P:=P) w ⟨b,off,none⟩ vs h2;refine⟨.agg vs.toArray,?_,vs,rfl,h1,h3⟩;simp only[if_true,Sem.run_bind,fq hs,Result.andThen_ok,<-hl,<-h1,hr,Sem.run_pure]
 |false=>
  match l,hm with
  | [c],hm=>
   simp[Kb]at hm;subst hm;obtain⟨u,hu,hd⟩:=h3 0 c aG;have:=h2 0 u hu;rw[lT]at this;refine⟨u,?_,hd⟩;simp only[abV,if_false,run_load];rw[show(⟨b,off,none⟩:Addr)=⟨b,off+0,none⟩ by simp,this]
theorem tn(hM:aL ρ m w){t:TypeId}{agg:Bool}{n:Nat}(ha:ep P t=some agg)(hs:eL P t=some n){av:CV}{v:Value}{K:CV->Prop}(h:uR a8 m agg n av K)(hd:cm ρ w av v):∃ad u cv,v= .pointer (some ad)/\(loadVar t ad).run P w= .ok u w/\K cv/\cm ρ w cv u:=by
 unfold uR at h;split at h
 .rename_i id j;obtain⟨aB,rfl⟩:=hd;obtain⟨bk,hb,h⟩:=bh.1 h;rw[aZ]at hb;cases bk<;>simp only at h
  rename_i cs;obtain⟨l,hr,h⟩:=bh.1 h;obtain⟨cv,hm,hK⟩:=bh.1 h;obtain⟨hl,mi⟩:=kH hr;obtain⟨cur,cj,cw⟩:=hM.bk id _ hb;have hc:mO ρ w (ρ.aV (.ar id)).b ((ρ.aV (.ar id)).aA+j) l:=by
   intro i c hi;have gL:i<n:=by rw[<-hl];exact(Mh.1 hi).1
   obtain⟨u,hu,cz⟩:=cw (j+i) c ((mi i gL).trans hi);exact⟨u,by rw[cj.cell,<-hu,abA],cz⟩
  obtain⟨u,dO,cz⟩:=pO ha hs hl hc hm;exact⟨_,u,cv,rfl,dO,hK,cz⟩
 .rename_i id esz i j;obtain⟨aB,rfl⟩:=hd;obtain⟨bk,hb,h⟩:=bh.1 h;rw[aZ]at hb;cases bk<;>simp only at h
  rename_i nN elems;rcases cE.1 h with⟨he,g1⟩|⟨_,g1⟩
  case inr=>exact g1.elim
  have he:esz=nN:=Z2 he;subst he;obtain⟨cells,ek,g2⟩:=bh.1 g1;rw[aZ]at ek;obtain⟨l,hr,g3⟩:=bh.1 g2;rcases cE.1 g3 with⟨jc,g4⟩|⟨_,g4⟩
  case inr=>exact g4.elim
  obtain⟨cv,hm,hK⟩:=bh.1 g4;obtain⟨hl,mi⟩:=kH hr;obtain⟨h2,h3,h4,h5,AO⟩:=hM.bk id _ hb;have uy:=(Mh.1 ek).1;obtain⟨cur,cj,h1,cw⟩:=AO om;have hc:mO ρ w (ρ.aV (.ar id)).b ((ρ.aV (.ar id)).aA+i*esz+j) l:=by
   intro k c hi;have gL:k<n:=by rw[<-hl];exact(Mh.1 hi).1
   obtain⟨u,hu,cz⟩:=cw i cells (j+k) c ek ((mi k gL).trans hi);exact⟨u,by rw[cj.cell,<-hu,abA _ j k],cz.Uz (uZ jc c (Rq hi))⟩
  obtain⟨u,dO,cz⟩:=pO ha hs hl hc hm;exact⟨_,u,cv,rfl,dO,hK,cz⟩
 .rename_i ds;obtain⟨b,off,rfl,hS,cw⟩:=hd;obtain⟨l,hr,h⟩:=bh.1 h;obtain⟨cv,hm,hK⟩:=bh.1 h;obtain⟨hl,mi⟩:=uY hr;have hc:mO ρ w b off l:=by
   intro i c hi;have gL:i<n:=by rw[<-hl];exact(Mh.1 hi).1
   obtain⟨d,xh,C5⟩:=mi i gL;rw[hi]at C5;simp at C5;subst C5;exact cw i d xh
  obtain⟨u,dO,cz⟩:=pO ha hs hl hc hm;exact⟨_,u,cv,rfl,dO,hK,cz⟩
 .exact h.elim
def dI(P:Program)(s:Sem Next)(ρ:bQ)(m:Mem)(w:World)(K:CV->Mem->Prop):Prop:=
 ∃nx v w' cv m' ρ',s.run P w= .ok nx w'/\(nx= .value v\/(nx= .skip/\v=Go.undef))/\K cv m'/\aL ρ' m' w'/\cm ρ' w' cv v/\Ext ρ m w ρ' m' w'
theorem dI.pure{s:Sem Next}{v:Value}{cv:CV}{K:CV->Mem->Prop}(hM:aL ρ m w)(hr:s.run P w= .ok (.value v) w)(hK:K cv m)(hd:cm ρ w cv v):dI P s ρ m w K:=
 ⟨_,v,w,cv,m,ρ,hr,.inl rfl,hK,hM,hd,Ext.refl _ _ _⟩
theorem bS{v x:Value}(h:cm ρ w (.rv (.one (.aa (.val x)))) v)(hx:x≠.slice none 0 0:=by first|(intro hh;cases hh;done)|assumption|simp):v=x/\cZ x=true:=by
 cases h with
 |val v h=>exact⟨rfl,h⟩
 |no a=>exact absurd rfl hx
theorem cA{v:Value}(h:cZ v=true):cm ρ w (.rv (.one (.aa (.val v)))) v:=dv.val v h
theorem Of{t:TypeId}(ht:P.underlying t=some .bool)(neg:Bool)(a b:Bool):
  (binOp (if neg then .neq else .eql) t (.bool a) (.bool b)).run P w= .ok (.bool (match neg with|true=>!(a==b)|false=>a==b)) w:=by
 have h:∀d,(Op.equalIn (d+1) t (.bool a) (.bool b)).run P w= .ok (a==b) w:=fun d=>by rw[Op.equalIn];simp[run_underlying ht]
 have h2:(Op.equal t (.bool a) (.bool b)).run P w= .ok (a==b) w:=h 9999;cases neg<;>simp[binOp,h2]
theorem Du{op:BinOp}{x y v:Value}(h:Hv op x y=some v){t:TypeId}:(binOp op t x y).run P w= .ok v w/\cZ v=true:=by
 cases x<;>cases y<;>simp only[Hv]at h<;>try(cases h;done)
 case int.int k a k' b=>
  by_cases hk:k=k'
  .subst hk;cases op<;>simp only[decide_true]at h
   case shl=>
    by_cases hb:b<0
    .simp[hb]at h
    .simp[hb]at h;subst h;simp[binOp,Op.shift,hb,cZ]
   case shr=>
    by_cases hb:b<0
    .simp[hb]at h
    .simp[hb]at h;subst h;simp[binOp,Op.shift,hb,cZ]
   case quo=>
    by_cases hb:b=0
    .simp[hb]at h
    .simp[hb]at h;subst h;simp[binOp,Op.intDiv,hb,cZ]
   case rem=>
    by_cases hb:b=0
    .simp[hb]at h
    .simp[hb]at h;subst h;simp[binOp,Op.intDiv,hb,cZ]
   all_goals first
    |(cases h;done)
    |(simp only[aag]at h;subst h;simp[binOp,Op.intArith,Op.intBits,Op.intCmp,cZ])
  .cases op<;>simp only[hk,decide_false]at h
   case shl=>
    by_cases hb:b<0
    .simp[hb]at h
    .simp[hb]at h;subst h;simp[binOp,Op.shift,hb,cZ]
   case shr=>
    by_cases hb:b<0
    .simp[hb]at h
    .simp[hb]at h;subst h;simp[binOp,Op.shift,hb,cZ]
   all_goals(cases h;done)
 case string.string a b=>
  cases op<;>simp only at h<;>try(cases h;done)
  case add=>
   by_cases hb:((a.size+b.size:Nat):Int)>IntKind.i64.max
   .rw[decide_eq_true hb]at h;cases h
   .rw[decide_eq_false hb]at h;simp only[aag]at h;subst h;refine⟨?_,rfl⟩;simp only[binOp,Op.stringOp];rw[if_neg hb];rfl
  all_goals(simp only[aag]at h;subst h;simp[binOp,Op.stringOp,cZ])
theorem HB{op:UnOp}{x v:Value}(h:Xx op x=some v):(Op.unary op x).run P w= .ok v w/\cZ v=true:=by
 cases x<;>simp only[Xx]at h<;>try(cases h;done)
 all_goals cases op<;>simp only at h<;>try(cases h;done)
 all_goals(simp only[aag]at h;subst h;simp[Op.unary,Op.intArith,cZ])
theorem tp{op:BinOp}{t:TypeId}{x y:Operand}{a b:Value}(ha:cZ a=true)(hn:a≠.nilIface):(eqGuard op t x y a b).run P w= .ok () w:=by
 unfold eqGuard;cases op<;>simp
 all_goals(cases a<;>simp_all[cZ])
end
section
variable {P:Program} {ρ:bQ} {m:Mem} {w:World} {a8:List CV} {a:Act} {K:CV->Mem->Prop}
theorem ji{cv:CV}{v:Value}{cs:List CC}(h:cellsOf cv=some cs)(hd:cm ρ w cv v):
  v.cells.size=cs.length/\(∀(i:Nat)c,cs[i]? =some c->∃u,v.cells[i]? =some u/\bC ρ w .none c u)/\(∀u∈v.cells.toList,u.oneCell'=true):=by
 unfold cellsOf at h;split at h
 .rename_i c;simp at h;subst h;have h1:v.oneCell'=true:=bC.one hd;have hc:v.cells= #[v]:=by cases v<;>first|rfl|simp[Value.oneCell']at h1
  refine⟨by simp[hc],fun i c' hi=>?_,by rw[hc];simpa using h1⟩
  cases i with
  |zero=>simp at hi;subst hi;exact⟨v,by simp[hc],hd⟩
  |succ i=>simp at hi
 .rename_i eh;simp at h;subst h;obtain⟨vs,rfl,hl,hc⟩:=hd;refine⟨by simp[Value.cells,hl],fun i c hi=>?_,fun u hu=>?_⟩
  .obtain⟨u,hu,cz⟩:=hc i c hi;exact⟨u,by simpa[Value.cells]using hu,cz⟩
  .simp only[Value.cells]at hu;obtain⟨i,hi,rfl⟩:=acE hu;have eu:i<vs.length:=by simpa using hi
   obtain⟨u,UC,cz⟩:=hc i (eh[i]'(by omega)) (IE om)
   rw[IE eu]at UC;simp at UC;simpa[UC]using cz.one
 .cases h
theorem eZ:∀{vs:List Value}{cs:List CC},ma vs=some cs->vs.length=cs.length/\∀(i:Nat)c,cs[i]? =some c->∃u,vs[i]? =some u/\bC ρ w .none c u
 | [],cs,h=>by simp[ma]at h;subst h;simp
 |v::r,cs,h=>by
  simp only[ma,SR,Q6]at h;obtain⟨c,hc,l,hl,h⟩:=h;simp at h;subst h;obtain⟨h1,h2⟩:=eZ hl;refine⟨by simp[h1],fun i c' hi=>?_⟩
  cases i with
  |zero=>simp at hi;subst hi;exact⟨v,aG,pN hc⟩
  |succ i=>simpa using h2 i c' (by simpa using hi)
theorem A8(hM:aL ρ m w){cs:List CC}{cells:Array Value}{ty:TypeId}{w':World}(hw:w'=w.alloc (.cells cells ty)\/w'=w.drew.alloc (.cells cells ty))(hd:∀(i:Nat)c,cs[i]? =some c->∃u,cells[i]? =some u/\bC ρ w .none c u):
  ∃ρ',aL ρ' (m++ [.var cs]) w'/\Ext ρ m w ρ' (m++ [.var cs]) w'/\cm ρ' w' (.rv (.one (.ptr m.length 0))) (.pointer (some ⟨w.heap.size,0,none⟩)):=by
 have Qr:eD w w':=by
  rcases hw with rfl|rfl
  .exact eD.alloc w _
  .exact(eD.drew w).trans (eD.alloc w.drew _)
 have cj:lS True w' w.heap.size cells:=by
  rcases hw with rfl|rfl
  .exact lS.new w cells ty
  .exact lS.new w.drew cells ty
 have dN:w.heap.size<w'.heap.size:=cj.lt;let l:wW:=⟨w.heap.size,0,0,0⟩;have hn:=hM.n;have cC:(ρ.push l).aV (.ar m.length)=l:=by rw[<-hn];exact ρ.gC l
 have g:iD ρ w (ρ.push l) w':=⟨by simp[bQ.push],fun k hk=>ρ.eX l hk,fun b hb=>hb,fun b hb=>Qr.heap b (hM.S b hb)⟩
 have hb:d8 (ρ.push l) w' m.length (.var cs):=by
  refine⟨cells,by rw[cC];exact cj,fun j c hj=>?_⟩
  obtain⟨u,hu,cz⟩:=hd j c hj;exact⟨u,by rw[cC];simpa[l]using hu,cz.cQ g aG⟩
 obtain⟨h1,h2⟩:=hM.push (l:=l) Qr (SS _) dN hb trivial;refine⟨_,h1,h2,by simp[bQ.push,hn],?_⟩
 rw[cC]
theorem Ko(hM:aL ρ m w){esz cap:Nat}{elems:List (List CC)}{cells:Array Value}{ty:TypeId}{w':World}(hw:w'=w.alloc (.cells cells ty)\/w'=w.drew.alloc (.cells cells ty))(dN:cap*esz<=cells.size)(hlen:elems.length<=cap)(bq:cap<=maxLen)(nV:∀cs,cs∈elems->cs.length=esz)(hd:∀(i:Nat)cs(j:Nat)c,elems[i]? =some cs->cs[j]? =some c->∃u,cells[i*esz+j]? =some u/\bC ρ w .none c u):
  ∃ρ',aL ρ' (m++ [.row esz elems]) w'/\Ext ρ m w ρ' (m++ [.row esz elems]) w'/\
   cm ρ' w' (.rv (.one (.row m.length esz 0 none))) (.slice (some ⟨w.heap.size,0,none⟩) elems.length cap):=by
 have Qr:eD w w':=by
  rcases hw with rfl|rfl
  .exact eD.alloc w _
  .exact(eD.drew w).trans (eD.alloc w.drew _)
 have cj:lS (esz=1) w' w.heap.size cells:=by
  rcases hw with rfl|rfl
  .exact lS.new w cells ty
  .exact lS.new w.drew cells ty
 have aB:w.heap.size<w'.heap.size:=cj.lt;let l:wW:=⟨w.heap.size,0,elems.length,cap⟩;have hn:=hM.n;have cC:(ρ.push l).aV (.ar m.length)=l:=by rw[<-hn];exact ρ.gC l
 have g:iD ρ w (ρ.push l) w':=⟨by simp[bQ.push],fun k hk=>ρ.eX l hk,fun b hb=>hb,fun b hb=>Qr.heap b (hM.S b hb)⟩
 have hb:d8 (ρ.push l) w' m.length (.row esz elems):=by
  refine⟨by rw[cC],by rw[cC];exact hlen,by rw[cC];exact bq,nV,fun _=>⟨cells,by rw[cC];exact cj,by rw[cC];simpa[l]using dN,fun i cs j c hi hj=>?_⟩⟩
  obtain⟨u,hu,cz⟩:=hd i cs j c hi hj;exact⟨u,by rw[cC];simpa[l]using hu,(cz.cQ g aG).u0 _⟩
 obtain⟨h1,h2⟩:=hM.push (l:=l) Qr (SS _) aB hb (fun i cs j c hi hj=>by obtain⟨u,hu,cz⟩:=hd i cs j c hi hj;exact cz.y7)
 refine⟨_,h1,h2,by simp[bQ.push,hn],?_⟩
 rw[cC];refine⟨aG,aG,hlen,bq,_,rfl,fun _=>?_⟩
 simp[l]
theorem A9(hM:aL ρ m w){t:TypeId}{z:List CC}(hz:dY P t=some z)(h:step P (.alloc z) a8 m K):
  dI P (do pure (Next.value (<-Instr.alloc t true (.tuple #[])))) ρ m w K:=by
 simp only[dY,SR,Q6]at hz;obtain⟨i,hi,v,hv,hc⟩:=hz;obtain⟨hl,hd⟩:=eZ (ρ:=ρ) (w:=w) hc;obtain⟨ρ',h1,h2,h3⟩:=A8 hM (ty:=t) (cells:=v.cells) (.inl rfl) (fun i c hi=>by
  obtain⟨u,hu,cz⟩:=hd i c hi;exact⟨u,by simpa using hu,cz⟩)
 simp only[step,ik,b9]at h;refine⟨_,_,_,_,_,ρ',?_,.inl rfl,h,h1,h3,h2⟩;simp[Instr.alloc,zeroValue,typeInfo,hi,hv,newVar,newRow]
theorem HC(hM:aL ρ m w)(hE:bm ρ w a8 a.tmps){t:TypeId}{x:Operand}{x':X}(hx:bt x=some x')(h:step P (.box x') a8 m K):
  dI P (do pure (Next.value (<-Instr.box t (a.eval x)))) ρ m w K:=by
 simp only[step]at h;obtain⟨cs,eJ,h⟩:=bh.1 h;obtain⟨hl,hd,_⟩:=ji eJ (aR hE hx);obtain⟨ρ',h1,h2,h3⟩:=A8 hM (ty:=t) (cells:=(a.eval x).cells) (.inl rfl) hd;simp only[ik,b9]at h;refine⟨_,_,_,_,_,ρ',?_,.inl rfl,h,h1,h3,h2⟩;simp[Instr.box,newVar,newRow]
theorem rV(off:Nat):∀(vs:List Value)(k:Nat)(cells:Array Value),
  let r:=(vs.zipIdx k).foldl (fun(cs:Array Value)(p:Value×Nat)=>cs.setIfInBounds (off+p.2) p.1) cells
  r.size=cells.size/\(off+k+vs.length<=cells.size->∀i,r[i]? =if off+k<=i/\i<off+k+vs.length then vs[i-(off+k)]? else cells[i]?)
 | [],k,cells=>by simp;intro _ i h1 h2;omega
 |v::r,k,cells=>by
  simp only[List.zipIdx_cons,List.foldl_cons];obtain⟨h1,h2⟩:=rV off r (k+1) (cells.setIfInBounds (off+k) v);refine⟨by rw[h1];simp,fun hle i=>?_⟩
  simp only[aar]at hle;rw[h2 (by simp;omega) i]
  by_cases hc:off+(k+1)<=i/\i<off+(k+1)+r.length
  .rw[if_pos hc,if_pos (by simp;omega)]
   rw[show i-(off+k)=(i-(off+(k+1)))+1 by omega]
   simp
  .rw[if_neg hc];by_cases he:i=off+k
   .subst he;rw[if_pos aG];simp only[acH,acs];rw[ab8];simp;omega
   .rw[if_neg (by simp;omega),ab8,if_neg om]
def Cells(ρ:bQ)(w:World)(cs:List CC)(cells:Array Value):Prop:=
 cells.size=cs.length/\∀(i:Nat)c,cs[i]? =some c->∃u,cells[i]? =some u/\bC ρ w .none c u
theorem Ba{place:Nat->Option (Nat×Nat)}{i off sz:Nat}{v:Value}{rest:List (Nat×Value)}{z z' cs:List CC}{cells:Array Value}(hp:place i=some (off,sz))(hz:Cells ρ w z cells)(hv:v.cells.size=sz)(fU:cs.length=sz)(hd:∀(i:Nat)c,cs[i]? =some c->∃u,v.cells[i]? =some u/\bC ρ w .none c u)(hw:gp z off cs=some z'):∃fb,Instr.fill place cells ((i,v)::rest)=Instr.fill place fb rest/\Cells ρ w z' fb:=by
 obtain⟨h1,h2,h3⟩:=jh hw;refine⟨(v.cells.zipIdx.foldl (fun cs(p:Value×Nat)=>cs.setIfInBounds (off+p.2) p.1) cells),?_,?_⟩
 .rw[Instr.fill,hp];simp only;rw[if_neg (by rw[hz.1];simp;omega)]
 .have hf:=rV off v.cells.toList 0 cells;simp only[acI]at hf;have he:v.cells.zipIdx.foldl (fun cs(p:Value×Nat)=>cs.setIfInBounds (off+p.2) p.1) cells=(v.cells.toList.zipIdx 0).foldl (fun(cs:Array Value)(p:Value×Nat)=>cs.setIfInBounds (off+p.2) p.1) cells:=by rw[<-Array.foldl_toList];simp
  rw[he];refine⟨by rw[hf.1,hz.1,h1],fun k c hk=>?_⟩
  rw[hf.2 (by rw[hz.1];simp;omega) k]
  rw[h3 k]at hk;have hlen:v.cells.toList.length=cs.length:=by simp[hv,fU]
  rw[hlen];by_cases hc:off<=k/\k<off+cs.length
  .rw[if_pos hc]at hk⊢;obtain⟨u,hu,cz⟩:=hd _ c hk;exact⟨u,by simpa using hu,cz⟩
  .rw[if_neg hc]at hk⊢;exact hz.2 k c hk
theorem tq(hE:bm ρ w a8 a.tmps){fs:Array Field}{place:Nat->Option (Nat×Nat)}(fW:∀i f,fs[i]? =some f->∀n,eL P f.type=some n->place i=some (f.offset,n)):
  ∀{ps:List (Nat×Operand)}{oR:List (Nat×Nat×X)}{z z':List CC}{cells:Array Value},mc P fs ps=some oR->nL a8 z oR=some z'->Cells ρ w z cells->
   ∃fb,Instr.fill place cells (ps.map fun p=>(p.1,a.eval p.2))=some fb/\Cells ρ w z' fb
 | [],oR,z,z',cells,hp,hf,hz=>by simp[mc]at hp;subst hp;simp[nL]at hf;subst hf;exact⟨cells,rfl,hz⟩
 |(i,x)::r,oR,z,z',cells,hp,hf,hz=>by
  simp only[mc,SR,Q6]at hp;obtain⟨f,Yi,n,hn,x',hx,r',hr,hp⟩:=hp;simp at hp;subst hp;simp only[nL]at hf;split at hf
  .rename_i cs eJ;split at hf
   .rename_i hlen;have hlen:cs.length=n:=Z2 hlen;split at hf
    .rename_i z1 UD;obtain⟨h1,h2,_⟩:=ji eJ (aR hE hx);obtain⟨RE,he,Dv⟩:=Ba (rest:=r.map fun p=>(p.1,a.eval p.2)) (fW i f Yi n hn) hz (h1.trans hlen) hlen h2 UD
     obtain⟨fb,tm,qH⟩:=tq hE fW hr hf Dv;exact⟨fb,by rw[abv,he,tm],qH⟩
    .cases hf
   .cases hf
  .cases hf
theorem tt(hE:bm ρ w a8 a.tmps){sz:Nat}{place:Nat->Option (Nat×Nat)}(fW:∀i,place i=some (i*sz,sz)):
  ∀{ps:List (Nat×Operand)}{oR:List (Nat×Nat×X)}{z z':List CC}{cells:Array Value},kh sz ps=some oR->nL a8 z oR=some z'->Cells ρ w z cells->
   ∃fb,Instr.fill place cells (ps.map fun p=>(p.1,a.eval p.2))=some fb/\Cells ρ w z' fb
 | [],oR,z,z',cells,hp,hf,hz=>by simp[kh]at hp;subst hp;simp[nL]at hf;subst hf;exact⟨cells,rfl,hz⟩
 |(i,x)::r,oR,z,z',cells,hp,hf,hz=>by
  simp only[kh,SR,Q6]at hp;obtain⟨x',hx,r',hr,hp⟩:=hp;simp at hp;subst hp;simp only[nL]at hf;split at hf
  .rename_i cs eJ;split at hf
   .rename_i hlen;have hlen:cs.length=sz:=Z2 hlen;split at hf
    .rename_i z1 UD;obtain⟨h1,h2,_⟩:=ji eJ (aR hE hx);obtain⟨RE,he,Dv⟩:=Ba (rest:=r.map fun p=>(p.1,a.eval p.2)) (fW i) hz (h1.trans hlen) hlen h2 UD
     obtain⟨fb,tm,qH⟩:=tt hE fW hr hf Dv;exact⟨fb,by rw[abv,he,tm],qH⟩
    .cases hf
   .cases hf
  .cases hf
theorem Dw{t:TypeId}{z:List CC}(hz:dY P t=some z):∃v,(zeroValue t).run P w= .ok v w/\Cells ρ w z v.cells:=by
 simp only[dY,SR,Q6]at hz;obtain⟨i,hi,v,hv,hc⟩:=hz;obtain⟨hl,hd⟩:=eZ (ρ:=ρ) (w:=w) hc;refine⟨v,by simp[zeroValue,typeInfo,hi,hv],by simpa using hl,fun i c hi=>?_⟩
 obtain⟨u,hu,cz⟩:=hd i c hi;exact⟨u,by simpa using hu,cz⟩
theorem F8{cs:List CC}{cells:Array Value}(h:Cells ρ w cs cells):cm ρ w (.rv (.agg cs)) (.agg cells):=
 ⟨cells.toList,aG,by simpa using h.1,fun i c hi=>let⟨u,hu,hd⟩:=h.2 i c hi;⟨u,by simpa using hu,hd⟩⟩
end
section
variable {P:Program} {ρ:bQ} {m:Mem} {w:World} {a8:List CV} {a:Act} {K:CV->Mem->Prop}
theorem Bb{α β:Type}{f:α->Option β}:∀{l:List α}{r:List β},l.mapM f=some r->∀(i:Nat)x,l[i]? =some x->∃y,f x=some y/\r[i]? =some y
 | [],r,h,i,x,hx=>by simp at hx
 |a::l,r,h,i,x,hx=>by
  simp only[List.mapM_cons,SR,Q6,Option.pure_def]at h;obtain⟨y,hy,ys,hys,h⟩:=h;simp at h;subst h;cases i with
  |zero=>simp at hx;subst hx;exact⟨y,hy,aG⟩
  |succ i=>simpa using Bb hys i x (by simpa using hx)
theorem tu(hM:aL ρ m w)(hE:bm ρ w a8 a.tmps){t:TypeId}{ps:Array (Nat×Operand)}{z:List CC}{oR:List (Nat×Nat×X)}(hz:dY P t=some z)(hp:(∃fs,P.underlying t=some (.struct fs)/\(fs.toList.mapM (fun f=>(P.info? f.type).map fun i=>(f.offset,i.size))).isSome=true/\mc P fs ps.toList=some oR)\/
   (∃n e sz,P.underlying t=some (.array n e)/\eL P e=some sz/\kh sz ps.toList=some oR))(h:step P (.build z oR) a8 m K):dI P (do pure (Next.value (<-Instr.build t (ps.map fun(i,x)=>(i,a.eval x))))) ρ m w K:=by
 simp only[step]at h;obtain⟨z',hf,hK⟩:=bh.1 h;have C6:=hz;simp only[dY,SR,Q6]at hz;obtain⟨i,hi,v,hv,hc⟩:=hz;obtain⟨hl,hd⟩:=eZ (ρ:=ρ) (w:=w) hc;have ek:Cells ρ w z v.cells:=⟨by simpa using hl,fun i c hi=>by
  obtain⟨u,hu,cz⟩:=hd i c hi;exact⟨u,by simpa using hu,cz⟩⟩
 have key:∃cells,P.built t (ps.map fun(i,x)=>(i,a.eval x)).toList=some cells/\Cells ρ w z' cells:=by
  rcases hp with⟨fs,hu,fN,Yj⟩|⟨n,e,sz,hu,dN,Yj⟩
  .obtain⟨places,fW⟩:=Option.isSome_iff_exists.1 fN;obtain⟨cells,h1,h2⟩:=tq hE (fs:=fs) (place:=fun i=>places.toArray[i]?) (fun i f Yi n hn=>by
    obtain⟨y,hy,hr⟩:=Bb fW i f (by simpa using Yi)
    simp only[eL,aaI]at hn hy;obtain⟨i1,Qs,rfl⟩:=hn;obtain⟨i2,eC,rfl⟩:=hy;rw[Qs]at eC;cases eC;simpa using hr) Yj hf ek
   refine⟨cells,?_,h2⟩;unfold Program.built;simp only[hi,hu,hv,fW];simpa using h1
  .obtain⟨cells,h1,h2⟩:=tt hE (sz:=sz) (place:=fun i=>some (i*sz,sz)) (fun i=>rfl) Yj hf ek
   refine⟨cells,?_,h2⟩;simp only[eL,aaI]at dN;obtain⟨ie,gX,rfl⟩:=dN;unfold Program.built;simp only[hi,hu,hv,gX];simpa using h1
 obtain⟨cells,hb,eJ⟩:=key;refine dI.pure hM (v:= .agg cells) ?_ hK (F8 eJ);rw[Sem.run_bind,run_build w t _ cells hb];rfl
theorem Dx(hM:aL ρ m w)(hE:bm ρ w a8 a.tmps){t:TypeId}{x:Operand}{x':X}{agg:Bool}{n:Nat}(ha:ep P t=some agg)(hs:eL P t=some n)(hx:bt x=some x')(h:step P (.load agg n x') a8 m K):dI P (do pure (Next.value (<-Instr.loadAt t (a.eval x)))) ρ m w K:=by
 simp only[step]at h;obtain⟨ad,u,cv,hv,hr,hK,hd⟩:=tn hM ha hs h (aR hE hx);refine dI.pure hM (v:=u) ?_ hK hd;rw[hv];simp[Instr.loadAt,Instr.sureAddr,hr]
theorem mP{mk:Prop}(g o:Nat):∀(vs:List Value)(i:Nat)(cur:Array Value)(w:World),lS mk w g cur->o+i+vs.length<=cur.size->(∀v∈vs,v.oneCell'=true)->
  ∃w' gq,(storeCells ⟨g,o,none⟩ vs i).run P w= .ok () w'/\lS mk w' g gq/\kI w w' g/\gq.size=cur.size/\
   ∀k,gq[k]? =if o+i<=k/\k<o+i+vs.length then vs[k-(o+i)]? else cur[k]?
 | [],i,cur,w,hc,_,_=>⟨w,cur,rfl,hc,⟨fun _ _=>rfl,rfl,rfl,rfl,rfl⟩,rfl,fun k=>by rw[if_neg aG]⟩
 |v::r,i,cur,w,hc,hl,h1=>by
  simp only[aar]at hl;have hi:o+i<cur.size:=om;have jj:w.cell? ⟨g,o+i,none⟩=some cur[o+i]:=by rw[hc.cell];simp[hi]
  have Yk:=hc.pG hi;have ua:(store ((⟨g,o,none⟩:Addr).add i) v).run P w= .ok () (w.setCell ⟨g,o+i,none⟩ v):=by rw[lT,run_store P w _ v _ (h1 v aG),jj];simp[Yk]
  have Dv:lS mk (w.setCell ⟨g,o+i,none⟩ v) g (cur.setIfInBounds (o+i) v):=by
   obtain⟨ty,fr,hb,hf⟩:=hc;refine⟨ty,fr,?_,by simpa using hf⟩
   simp[World.setCell,abN,hb]
  have y9:kI w (w.setCell ⟨g,o+i,none⟩ v) g:=⟨fun b hb=>by simp[World.setCell,abN,Ne.symm hb],aG,rfl,rfl,rfl⟩
  obtain⟨w',gq,hr,qH,ht,dN,hk⟩:=mP g o r (i+1) _ _ Dv (by simp;omega) (fun x hx=>h1 x (by simp[hx]))
  refine⟨w',gq,?_,qH,⟨fun b hb=>(ht.heap b hb).trans (y9.heap b hb),ht.size.trans y9.size,ht.os,ht.tape,ht.output⟩,by simpa using dN,fun k=>?_⟩
  .simp only[storeCells,Sem.run_bind,ua,Result.andThen_ok];exact hr
  .rw[hk k];simp only[aar];by_cases hb:o+(i+1)<=k/\k<o+(i+1)+r.length
   .rw[if_pos hb,if_pos om,show k-(o+i)=(k-(o+(i+1)))+1 by omega]
    simp
   .rw[if_neg hb,ab8];by_cases he:o+i=k
    .subst he;rw[if_pos rfl,if_pos om];simp
    .rw[if_neg he,if_neg om]
theorem Bc(hM:aL ρ m w)(hE:bm ρ w a8 a.tmps){t:TypeId}{n:Nat}{p x:Operand}{p' x':X}(hs:eL P t=some n)(Og:n≠0)(hp:bt p=some p')(hx:bt x=some x')(h:step P (.store n p' x') a8 m K):dI P (do Instr.storeAt t (a.eval p) (a.eval x);pure Next.skip) ρ m w K:=by
 simp only[step]at h;obtain⟨xs,Yl,h⟩:=bh.1 h;rcases cE.1 h with⟨hn,h⟩|⟨_,h⟩
 case inr=>exact h.elim
 have hn:xs.length=n:=Z2 hn;obtain⟨c1,c2,c3⟩:=ji Yl (aR hE hx);have XA:=aR hE hp;generalize a.eval p=pv at XA;generalize p'.ev a8=pc at XA h;generalize a.eval x=xv at c1 c2 c3;have sv:∀ad:Addr,Instr.storeAt t (.pointer (some ad)) xv=storeVar t ad xv:=fun ad=>rfl
 have run:∀{mk:Prop}(b off:Nat)(cur:Array Value),lS mk w b cur->off+xs.length<=cur.size->∃w' gq,(storeVar t ⟨b,off,none⟩ xv).run P w= .ok () w'/\lS mk w' b gq/\kI w w' b/\gq.size=cur.size/\
   ∀k,gq[k]? =if off<=k/\k<off+xs.length then xv.cells[k-off]? else cur[k]? :=by
  intro mk b off cur hc hle;obtain⟨w',gq,h1,h2,h3,h4,h5⟩:=mP (P:=P) b off xv.cells.toList 0 cur w hc (by simp[c1];omega) c3
  refine⟨w',gq,?_,h2,h3,h4,fun k=>?_⟩
  .unfold storeVar;rw[Sem.run_bind,fq hs];simp only[Result.andThen_ok];rw[if_neg (by rw[c1,hn];simp)]
   simpa using h1
  .rw[h5 k];simp[c1]
 split at h
 .rename_i id j;obtain⟨aB,rfl⟩:=XA;obtain⟨bk,hb,h⟩:=bh.1 h;rw[aZ]at hb;cases bk<;>simp only at h
  rename_i cs;obtain⟨eh,hw,hK⟩:=bh.1 h;obtain⟨w1,w2,w3⟩:=jh hw;obtain⟨cur,cj,cw⟩:=hM.bk id _ hb;rw[bj]at hK;have jk:(ρ.aV (.ar id)).aA+j+xs.length<=cur.size:=by obtain⟨u,hu,_⟩:=cw (j+xs.length-1) _ (IE om);have:=(aaK.1 hu).1;omega
  obtain⟨w',gq,hr,qH,ht,dN,hk⟩:=run (ρ.aV (.ar id)).b ((ρ.aV (.ar id)).aA+j) cur cj jk;obtain⟨lU,hX⟩:=hM.RD (Dr:= .var eh) hb ⟨_,hb,aG,by rintro⟨_,_,e⟩;cases e⟩ ht (fun g=>⟨gq,qH,fun k c Oh=>by
   rw[w3 k]at Oh;rw[hk];by_cases gL:j<=k/\k<j+xs.length
   .rw[if_pos gL]at Oh;rw[if_pos om];obtain⟨u,hu,cz⟩:=c2 _ c Oh;exact⟨u,by rw[<-hu];congr 1;omega,cz.cQ g aG⟩
   .rw[if_neg gL]at Oh;rw[if_neg om];obtain⟨u,hu,cz⟩:=cw k c Oh;exact⟨u,hu,cz.cQ g aG⟩⟩) (by
   rintro i' j' esz e ⟨es,rows,Kp,mj,_,_⟩;rw[Wl (by rw[<-hM.n];exact aB)]at mj
   cases mj)
  refine⟨.skip,Go.undef,w',.undef,_,ρ,?_,.inr ⟨rfl,rfl⟩,hK,lU,rfl,hX⟩;rw[sv,Sem.run_bind,hr];rfl
 .rename_i id esz i j;obtain⟨aB,rfl⟩:=XA;obtain⟨bk,hb,h⟩:=bh.1 h;rw[aZ]at hb;cases bk<;>simp only at h
  rename_i nN elems;rcases cE.1 h with⟨he,h⟩|⟨_,h⟩
  case inr=>exact h.elim
  have he:esz=nN:=Z2 he;obtain⟨cells,ek,h⟩:=bh.1 h;rw[aZ]at ek;rcases cE.1 h with⟨jc,h⟩|⟨_,h⟩
  case inr=>exact h.elim
  obtain⟨fb,hw,hK⟩:=bh.1 h;obtain⟨w1,w2,w3⟩:=jh hw;obtain⟨h2,h3,h4,h5,AO⟩:=hM.bk id _ hb;have uy:=(Mh.1 ek).1;have dz:0<(ρ.aV (.ar id)).cap:=om;obtain⟨cur,cj,h1,cw⟩:=AO dz;rw[bj,bj]at hK;subst he;have fU:cells.length=esz:=h5 _ (Rq ek);have hi:i<elems.length:=(Mh.1 ek).1;have hmul:i*esz+esz<=(ρ.aV (.ar id)).cap*esz:=by have:(i+1)*esz<=(ρ.aV (.ar id)).cap*esz:=abq _ om;rwa [abE,ab3]at this
  obtain⟨w',gq,hr,qH,ht,dN,hk⟩:=run (ρ.aV (.ar id)).b ((ρ.aV (.ar id)).aA+i*esz+j) cur cj om;obtain⟨lU,hX⟩:=hM.RD (Dr:= .row esz (elems.set i fb)) hb ⟨_,hb,aG,fun _=>dz⟩ ht (fun g=>⟨by simpa using h2,h3,h4,fun cs eJ=>by
    rcases aaX eJ with hm|rfl
    .exact h5 cs hm
    .rw[w1,fU],fun _=>⟨gq,qH,by rw[dN];exact h1,fun i' cs j' c eu pP=>by
   rw[hk];by_cases NU:i=i'
   .subst NU;rw[Wl hi]at eu;simp only[aag]at eu;subst eu;rw[w3 j']at pP;by_cases gL:j<=j'/\j'<j+xs.length
    .rw[if_pos gL]at pP;rw[if_pos om];obtain⟨u,hu,cz⟩:=c2 _ c pP;exact⟨u,by rw[<-hu];congr 1;omega,(cz.cQ g aG).u0 _⟩
    .rw[if_neg gL]at pP;rw[if_neg om];obtain⟨u,hu,cz⟩:=cw i cells j' c ek pP;exact⟨u,hu,cz.cQ g (by rintro _ _ _ e;cases e;exact aB)⟩
   .rw[ZZ NU]at eu;obtain⟨u,hu,cz⟩:=cw i' cs j' c eu pP;have acO:j'<esz:=by rw[<-h5 _ (Rq eu)];exact(Mh.1 pP).1
    have fc:¬((ρ.aV (.ar id)).aA+i*esz+j<=(ρ.aV (.ar id)).aA+i'*esz+j'/\(ρ.aV (.ar id)).aA+i'*esz+j'<(ρ.aV (.ar id)).aA+i*esz+j+xs.length):=by
     rcases Nat.lt_or_gt_of_ne NU with nU|nU
     .have:(i+1)*esz<=i'*esz:=abq _ nU;rw[abE,ab3]at this;omega
     .have:(i'+1)*esz<=i*esz:=abq _ nU;rw[abE,ab3]at this;omega
    rw[if_neg fc];exact⟨u,hu,cz.cQ g (by rintro _ _ _ e;cases e;exact aB)⟩⟩⟩) (by
   rintro i' j' xf e ⟨es,rows,Kp,mj,eC,kj⟩;rw[Wl (by rw[<-hM.n];exact aB)]at mj
   cases mj;by_cases NU:i=i'
   .subst NU;rw[Wl hi]at eC;cases eC;rw[w3 j']at kj;by_cases gL:j<=j'/\j'<j+xs.length
    .rw[if_pos gL]at kj;obtain⟨u,hu,cz⟩:=c2 _ _ kj;exact absurd rfl (cz.y7 _ _)
    .rw[if_neg gL]at kj;exact⟨esz,elems,cells,hb,ek,kj⟩
   .rw[ZZ NU]at eC;exact⟨esz,elems,Kp,hb,eC,kj⟩)
  refine⟨.skip,Go.undef,w',.undef,_,ρ,?_,.inr ⟨rfl,rfl⟩,hK,lU,rfl,hX⟩;rw[sv,Sem.run_bind,hr];rfl
 .exact h.elim
end
section
variable {P:Program} {ρ:bQ} {m:Mem} {w:World} {a8:List CV} {a:Act} {K:CV->Mem->Prop}
theorem Dy(hM:aL ρ m w)(hE:bm ρ w a8 a.tmps){t:TypeId}{fs:Array Field}{f:Field}{k n:Nat}{x:Operand}{x':X}(hu:P.underlying t=some (.struct fs))(hf:fs[k]? =some f)(hs:eL P f.type=some n)(hn:n≠0)(hx:bt x=some x')(h:step P (.br f.offset x') a8 m K):dI P (do pure (Next.value (<-Instr.fieldAt t (a.eval x) k))) ρ m w K:=by
 have hd:=aR hE hx;simp only[step]at h;have run:∀b off:Nat,(Instr.fieldAt t (.pointer (some ⟨b,off,none⟩)) k).run P w= .ok (.pointer (some ⟨b,off+f.offset,none⟩)) w:=fun b off=>by simp[Instr.fieldAt,run_underlying hu,hf,Instr.sureAddr,fieldPlace,fq hs,hn,lT]
 generalize a.eval x=v at hd⊢;generalize x'.ev a8=c at hd h;split at h
 .obtain⟨aB,rfl⟩:=hd;exact dI.pure hM (by rw[Sem.run_bind,run];rfl) h ⟨aB,by simp[abA]⟩
 .obtain⟨aB,rfl⟩:=hd;exact dI.pure hM (by rw[Sem.run_bind,run];rfl) h ⟨aB,by simp[abA]⟩
 .obtain⟨b,off,rfl,hS,cw⟩:=hd;refine dI.pure hM (by rw[Sem.run_bind,run];rfl) h ⟨b,off+f.offset,rfl,hS,fun j d hj=>?_⟩
  rw[abG]at hj;rw[abA];exact cw _ d hj
 .exact h.elim
theorem Bd{t:TypeId}{agg:Bool}{off n:Nat}{cs l:List CC}{cells:Array Value}{cv:CV}(ha:ep P t=some agg)(hs:eL P t=some n)(hc:Cells ρ w cs cells)(hr:iJ cs off n=some l)(hm:Kb agg l=some cv):∃u,(part t cells off).run P w= .ok u w/\cm ρ w cv u:=by
 obtain⟨hl,mi⟩:=kH hr;unfold part;rw[Sem.run_bind,oQ ha];simp only[Result.andThen_ok];cases agg with
 |true=>
  simp[Kb]at hm;subst hm;refine⟨.agg (cells.extract off (off+n)),by simp[fq hs],?_⟩
  refine F8 ⟨?_,fun i c hi=>?_⟩
  .simp only[Array.size_extract,hl];rcases abB n with h0|h0
   .omega
   .have:=mi (n-1) om;have h1:off+(n-1)<cs.length:=by
     rcases ZX (off+(n-1)) cs.length with h|h
     .exact h
     .rw[abg h,IE om]at this;cases this
    have:=hc.1;omega
  .have gL:i<n:=by rw[<-hl];exact(Mh.1 hi).1
   obtain⟨u,hu,cz⟩:=hc.2 (off+i) c ((mi i gL).trans hi);have aB:=(aaK.1 hu).1;refine⟨u,?_,cz⟩;rw[Array.getElem?_extract];rw[if_pos om];exact hu
 |false=>
  match l,hm with
  | [c],hm=>
   simp[Kb]at hm;subst hm;obtain⟨u,hu,cz⟩:=hc.2 off c (by have:=mi 0 (by simp at hl;omega);simpa using this)
   exact⟨u,by simp[hu],cz⟩
theorem HD(hM:aL ρ m w)(hE:bm ρ w a8 a.tmps){t:TypeId}{fs:Array Field}{f:Field}{k n:Nat}{agg:Bool}{x:Operand}{x':X}(hu:P.underlying t=some (.struct fs))(hf:fs[k]? =some f)(ha:ep P f.type=some agg)(hs:eL P f.type=some n)(hx:bt x=some x')(h:step P (.Ru agg f.offset n x') a8 m K):dI P (do pure (Next.value (<-Instr.field t (a.eval x) k))) ρ m w K:=by
 have hd:=aR hE hx;simp only[step]at h;generalize a.eval x=v at hd⊢;generalize x'.ev a8=c at hd h;split at h
 .rename_i cs;obtain⟨vs,rfl,hl,hc⟩:=hd;obtain⟨l,hr,h⟩:=bh.1 h;obtain⟨cv,hm,hK⟩:=bh.1 h;obtain⟨u,dO,cz⟩:=Bd (w:=w) ha hs (cells:=vs.toArray) ⟨by simpa using hl,fun i c hi=>by simpa using hc i c hi⟩ hr hm
  refine dI.pure hM (v:=u) ?_ hK cz;simp[Instr.field,run_underlying hu,hf,asAgg,dO]
 .exact h.elim
theorem xO{α:Type}{l:List α}{n:Int}{x:α}(h:cR l n=some x):∃k:Nat,n=k/\l[k]? =some x:=by
 cases n with
 |ofNat k=>exact⟨k,rfl,by simpa[cR,aZ]using h⟩
 |negSucc k=>simp[cR]at h
theorem ml{n:Int}{len k:Nat}(h:dH n len=some k):n=k/\k<len:=by
 cases n with
 |ofNat j=>
  simp only[dH]at h;split at h
  .rename_i hb;simp at h;subst h;exact⟨rfl,by simpa[abU]using hb⟩
  .cases h
 |negSucc j=>simp[dH]at h
theorem lw(a b:Nat):ib a b=a+b:=by
 cases a<;>simp[ib]
theorem io(n lo:Nat)(hi:Option Nat):lenOf n lo hi=hi.getD n-lo:=by
 cases lo<;>cases hi<;>simp[lenOf]
theorem oS{k:IntKind}{n:Int}{v:Value}(h:cm ρ w (.rv (.one (.aa (.val (.int k n))))) v):v= .int k n:=(bS h).1
theorem lA{t e:TypeId}{esz:Nat}(hu:P.underlying t=some (.slice e))(hs:eL P e=some esz)(b off len cap k:Nat)(kd:IntKind)(hk:k<len):
  (Instr.indexAt t (.slice (some ⟨b,off,none⟩) len cap) (.int kd (k:Int))).run P w= .ok (.pointer (some ⟨b,off+k*esz,none⟩)) w:=by
 have h1:(0:Int)<=(k:Int)/\(k:Int)<(len:Int):=⟨om,om⟩;simp[Instr.indexAt,asIntOf,run_underlying hu,fq hs,lT];omega
theorem HE(hM:aL ρ m w)(hE:bm ρ w a8 a.tmps){t e:TypeId}{esz:Nat}{x i:Operand}{x' i':X}(hu:P.underlying t=some (.slice e))(hs:eL P e=some esz)(hx:bt x=some x')(hi:bt i=some i')(h:step P (.bW esz x' i') a8 m K):dI P (do pure (Next.value (<-Instr.indexAt t (a.eval x) (a.eval i)))) ρ m w K:=by
 have hd:=aR hE hx;have Kq:=aR hE hi;simp only[step]at h;generalize a.eval x=v at hd⊢;generalize a.eval i=vi at Kq⊢;generalize x'.ev a8=c at hd h;generalize i'.ev a8=ci at Kq h;split at h
 .rename_i kd n;obtain rfl:=oS Kq;split at h
  .rename_i nN elems;rcases cE.1 h with⟨he,g1⟩|⟨_,g1⟩
   case inr=>exact g1.elim
   have he:esz=nN:=Z2 he;subst he;obtain⟨ds,hg,hK⟩:=bh.1 g1;obtain⟨k,rfl,hk⟩:=xO hg;have aB:=(Mh.1 hk).1;cases hd with
   |nil=>simp at aB
   |sl _ _ b off cap u hS hl bq dN hc cw=>
    refine dI.pure hM (by rw[Sem.run_bind,lA hu hs b off _ cap k kd aB];rfl) hK ⟨b,off+k*esz,rfl,hS,fun j d hj=>?_⟩
    exact⟨_,hc k ds j d hk hj,cw k ds j d hk hj⟩
  .rename_i id nN lo hi;obtain⟨bk,hb,h⟩:=bh.1 h;rw[aZ]at hb;cases bk<;>simp only at h
   rename_i xf elems;rcases cE.1 h with⟨he,g1⟩|⟨_,g1⟩
   case inr=>exact g1.elim
   rcases cE.1 g1 with⟨oT,g2⟩|⟨_,g2⟩
   case inr=>exact g2.elim
   have he:esz=nN:=Z2 he;subst he;obtain⟨k,hg,hK⟩:=bh.1 g2;obtain⟨rfl,hk⟩:=ml hg;obtain⟨h2,h3,h4,h5,AO⟩:=hM.bk id _ hb;obtain⟨aB,d1,d2,d3,d4,ad,rfl,ub⟩:=hd;rw[io,h2]at hk;rw[ub (by clear AO;omega)]
   refine dI.pure hM (by rw[Sem.run_bind,lA hu hs _ _ _ _ k kd hk];rfl) hK ⟨aB,?_⟩
   rw[lw,abE];simp[abA]
  .exact h.elim
 .exact h.elim
theorem ip{t e:TypeId}{esz len:Nat}(hu:P.underlying t=some (.array len e))(hs:eL P e=some esz)(b off k:Nat)(kd:IntKind)(hk:k<len):
  (Instr.indexAt t (.pointer (some ⟨b,off,none⟩)) (.int kd (k:Int))).run P w= .ok (.pointer (some ⟨b,off+k*esz,none⟩)) w:=by
 have h1:(0:Int)<=(k:Int)/\(k:Int)<(len:Int):=⟨om,om⟩;simp[Instr.indexAt,asIntOf,run_underlying hu,fq hs,lT,Instr.sureAddr];omega
theorem Dz(hM:aL ρ m w)(hE:bm ρ w a8 a.tmps){t e:TypeId}{len esz:Nat}{x i:Operand}{x' i':X}(hu:P.underlying t=some (.array len e))(hs:eL P e=some esz)(hx:bt x=some x')(hi:bt i=some i')(h:step P (.w9 len esz x' i') a8 m K):dI P (do pure (Next.value (<-Instr.indexAt t (a.eval x) (a.eval i)))) ρ m w K:=by
 have hd:=aR hE hx;have Kq:=aR hE hi;simp only[step]at h;generalize a.eval x=v at hd⊢;generalize a.eval i=vi at Kq⊢;generalize x'.ev a8=c at hd h;generalize i'.ev a8=ci at Kq h;split at h
 .rename_i kd n;obtain rfl:=oS Kq;split at h
  .obtain⟨k,hg,hK⟩:=bh.1 h;obtain⟨rfl,hk⟩:=ml hg;obtain⟨aB,rfl⟩:=hd;exact dI.pure hM (by rw[Sem.run_bind,ip hu hs _ _ k kd hk];rfl) hK ⟨aB,by simp[abA]⟩
  .obtain⟨k,hg,hK⟩:=bh.1 h;obtain⟨rfl,hk⟩:=ml hg;obtain⟨aB,rfl⟩:=hd;exact dI.pure hM (by rw[Sem.run_bind,ip hu hs _ _ k kd hk];rfl) hK ⟨aB,by simp[abA]⟩
  .obtain⟨k,hg,hK⟩:=bh.1 h;obtain⟨rfl,hk⟩:=ml hg;obtain⟨b,off,rfl,hS,cw⟩:=hd;refine dI.pure hM (by rw[Sem.run_bind,ip hu hs _ _ k kd hk];rfl) hK ⟨b,off+k*esz,rfl,hS,fun j d hj=>?_⟩
   rw[abG]at hj;rw[abA];exact cw _ d hj
  .exact h.elim
 .exact h.elim
theorem DA(hM:aL ρ m w)(hE:bm ρ w a8 a.tmps){t:TypeId}{x i:Operand}{x' i':X}(hu:P.underlying t=some .string)(hx:bt x=some x')(hi:bt i=some i')(h:step P (.A3 x' i') a8 m K):dI P (do pure (Next.value (<-Instr.index t (a.eval x) (a.eval i)))) ρ m w K:=by
 have hd:=aR hE hx;have Kq:=aR hE hi;simp only[step]at h;generalize a.eval x=v at hd⊢;generalize a.eval i=vi at Kq⊢;generalize x'.ev a8=c at hd h;generalize i'.ev a8=ci at Kq h;split at h
 .rename_i kd n;obtain rfl:=oS Kq;split at h
  .rename_i s;obtain⟨rfl,_⟩:=bS hd;obtain⟨b,hg,hK⟩:=bh.1 h;obtain⟨k,rfl,hk⟩:=xO hg;have aB:k<s.size:=by have:=(Mh.1 hk).1;simpa using this
   have hs:s[k]? =some b:=by
    rw[IE (by simpa using aB)]at hk
    simp at hk;rw[getElem?_pos s k aB];simp[<-hk];rfl
   refine dI.pure hM (v:= .int .u8 b.toNat) ?_ hK (cA rfl);simp[Instr.index,asIntOf,run_underlying hu,hs]
  .exact h.elim
 .exact h.elim
theorem xP(hM:aL ρ m w)(hE:bm ρ w a8 a.tmps){op:BinOp}{t:TypeId}{x y:Operand}{x' y':X}(hx:bt x=some x')(hy:bt y=some y')(h:step P (.aF op x' y') a8 m K):dI P (do let v<-(do eqGuard op t x y (a.eval x) (a.eval y);binOp op t (a.eval x) (a.eval y));pure (Next.value v)) ρ m w K:=by
 have hd:=aR hE hx;have po:=aR hE hy;simp only[step]at h;generalize a.eval x=v at hd⊢;generalize a.eval y=u at po⊢;generalize x'.ev a8=c at hd h;generalize y'.ev a8=d at po h;split at h
 .split at h
  .obtain⟨r,hr,hK⟩:=bh.1 h;obtain⟨rfl,hp⟩:=bS hd (fun e=>by subst e;simp[Hv]at hr)
   obtain⟨rfl,hq⟩:=bS po (fun e=>by subst e;cases v<;>simp[Hv]at hr)
   obtain⟨h1,h2⟩:=Du (P:=P) (w:=w) hr (t:=t);refine dI.pure hM (v:=r) ?_ hK (cA h2);have hg:(eqGuard op t x y v u).run P w= .ok () w:=tp hp (by rintro rfl;cases u<;>simp[Hv]at hr)
   simp only[Sem.run_bind,hg,Result.andThen_ok,h1,Sem.run_pure]
  .exact h.elim
 .exact h.elim
theorem xQ(hM:aL ρ m w)(hE:bm ρ w a8 a.tmps){neg:Bool}{t:TypeId}{x y:Operand}{x' y':X}(ht:P.underlying t=some .bool)(hx:bt x=some x')(hy:bt y=some y')(h:step P (.beq neg x' y') a8 m K):dI P (do let v<-(do eqGuard (if neg then .neq else .eql) t x y (a.eval x) (a.eval y);binOp (if neg then .neq else .eql) t (a.eval x) (a.eval y));pure (Next.value v)) ρ m w K:=by
 have hd:=aR hE hx;have po:=aR hE hy;simp only[step]at h;generalize a.eval x=v at hd⊢;generalize a.eval y=u at po⊢;generalize x'.ev a8=c at hd h;generalize y'.ev a8=d at po h;split at h
 .split at h
  .obtain⟨rfl,hp⟩:=bS hd;obtain⟨rfl,hq⟩:=bS po;refine dI.pure hM (v:=_) ?_ h (cA rfl);rw[Sem.run_bind,Sem.run_bind,tp hp aG];simp only[Result.andThen_ok,Of ht,Sem.run_pure]<;>rfl
  .exact h.elim
 .exact h.elim
theorem Ks(hM:aL ρ m w)(hE:bm ρ w a8 a.tmps){op:UnOp}{x:Operand}{x':X}(hx:bt x=some x')(h:step P (.un op x') a8 m K):dI P (do pure (Next.value (<-Op.unary op (a.eval x)))) ρ m w K:=by
 have hd:=aR hE hx;simp only[step]at h;generalize a.eval x=v at hd⊢;generalize x'.ev a8=c at hd h;split at h
 .obtain⟨r,hr,hK⟩:=bh.1 h;obtain⟨rfl,hp⟩:=bS hd (fun e=>by subst e;simp[Xx]at hr)
  obtain⟨h1,h2⟩:=HB (P:=P) (w:=w) hr;exact dI.pure hM (v:=r) (by rw[Sem.run_bind,h1];rfl) hK (cA h2)
 .exact h.elim
theorem DB(hM:aL ρ m w)(hE:bm ρ w a8 a.tmps){s d:TypeId}{k0 k:IntKind}{x:Operand}{x':X}(hs:P.underlying s=some (.int k0))(hk:P.underlying d=some (.int k))(hx:bt x=some x')(h:step P (.conv k x') a8 m K):dI P (do pure (Next.value (<-convert s d (a.eval x)))) ρ m w K:=by
 have hd:=aR hE hx;simp only[step]at h;generalize a.eval x=v at hd⊢;generalize x'.ev a8=c at hd h;split at h
 .obtain rfl:=oS hd;refine dI.pure hM (v:=_) ?_ h (cA rfl);simp[convert,run_underlying hs,run_underlying hk,Conv.intToInt]
 .exact h.elim
theorem HF(hM:aL ρ m w)(hE:bm ρ w a8 a.tmps){s d:TypeId}{x:Operand}{x':X}(hs:P.underlying s=some .string)(hk:P.underlying d=some .string)(hx:bt x=some x')(h:step P (.Up x') a8 m K):dI P (do pure (Next.value (<-convert s d (a.eval x)))) ρ m w K:=by
 have hd:=aR hE hx;simp only[step]at h;generalize a.eval x=v at hd⊢;generalize x'.ev a8=c at hd h;split at h
 .obtain⟨rfl,hp⟩:=bS hd;refine dI.pure hM (v:=_) ?_ h (cA rfl);simp[convert,run_underlying hs,run_underlying hk]
 .exact h.elim
theorem rW(hE:bm ρ w a8 a.tmps):∀{xs:List Operand}{F9:List X},tk xs=some F9->(FW a8 F9).length=xs.length/\
  ∀(i:Nat)c,(FW a8 F9)[i]? =some c->∃v,(xs.map a.eval)[i]? =some v/\cm ρ w c v
 | [],F9,h=>by simp[tk]at h;subst h;simp[FW]
 |x::r,F9,h=>by
  simp only[tk,SR,Q6]at h;obtain⟨x',hx,r',hr,h⟩:=h;simp at h;subst h;obtain⟨h1,h2⟩:=rW hE hr;refine⟨by simp[FW,h1],fun i c hi=>?_⟩
  cases i with
  |zero=>simp[FW]at hi;subst hi;exact⟨_,aG,aR hE hx⟩
  |succ i=>simpa using h2 i c (by simpa[FW]using hi)
theorem tv:∀{cs:List CV}{jG:List Nat},uO cs=some jG->cs=jG.map fun id=>CV.rv (.one (.ptr id 0))
 | [],jG,h=>by simp[uO]at h;subst h;rfl
 |c::r,jG,h=>by
  unfold uO at h;split at h
  .rename_i h1;simp at h1
  .rename_i id r' h1;simp only[adn]at h1;obtain⟨rfl,rfl⟩:=h1;split at h
   .rename_i l hl;simp at h;subst h;rw[tv hl];rfl
   .cases h
  .cases h
theorem u3:∀jG:List Nat,uw jG=jG.map fun id=>CV.rv (.one (.ptr id 0))
 | []=>rfl
 |id::r=>by simp[uw,u3 r]
theorem Kt(hM:aL ρ m w)(hE:bm ρ w a8 a.tmps){f:Nat}{xs:Array Operand}{F9:List X}(hx:tk xs.toList=some F9)(h:step P (.fn f F9) a8 m K):dI P (do pure (Next.value (<-Instr.makeFunc (.func f) ((#[]:Array Operand).map a.eval) (xs.map a.eval)))) ρ m w K:=by
 simp only[step]at h;obtain⟨jG,hi,hK⟩:=bh.1 h;obtain⟨h1,h2⟩:=rW hE hx;rw[tv hi]at h1 h2;refine dI.pure hM (v:= .func (.func f) #[] (xs.map a.eval)) (by simp[Instr.makeFunc]) hK ⟨fun id hid=>?_,?_⟩
 .obtain⟨k,hk,rfl⟩:=acE hid;obtain⟨v,_,hd⟩:=h2 k _ (by rw[Q8,IE hk];rfl)
  exact hd.1
 .congr 1;apply ab4;rw[Array.toList_map];apply abF;intro k;simp only[Nq]at h1;rcases ZX k jG.length with hk|hk
  .obtain⟨v,hv,hd⟩:=h2 k _ (by rw[Q8,IE hk];rfl)
   rw[hv,hd.2];simp[IE hk]
  .rw[abg (by simp;rw[<-Array.length_toList,<-h1];exact hk),abg (by simpa using hk)]
theorem HG(hM:aL ρ m w)(hE:bm ρ w a8 a.tmps){i:Nat}{x:Operand}{x':X}(hx:bt x=some x')(h:step P (.ext x' i) a8 m K):dI P (do pure (Next.value (<-Instr.extract (a.eval x) i))) ρ m w K:=by
 have hd:=aR hE hx;simp only[step]at h;generalize a.eval x=v at hd⊢;generalize x'.ev a8=c at hd h;split at h
 .obtain⟨r,hr,hK⟩:=bh.1 h;rw[aZ]at hr;obtain⟨vs,rfl,hl,hc⟩:=hd;obtain⟨u,hu,cz⟩:=hc i r hr;refine dI.pure hM (v:=u) ?_ hK cz;simp[Instr.extract,hu]
 .exact h.elim
theorem rX(hM:aL ρ m w)(hE:bm ρ w a8 a.tmps){t ty:TypeId}{x:Operand}{x':X}{k:Nat}(hu:(k=0/\P.underlying t=some .string)\/(k=1/\∃e,P.underlying t=some (.slice e))\/(k=2/\∃kt e,P.underlying t=some (.map kt e)))(hx:bt x=some x')(h:step P (.len k x') a8 m K):dI P (do pure (Next.value (<-Builtin.len_ #[t] ty #[a.eval x]))) ρ m w K:=by
 have hd:=aR hE hx;generalize a.eval x=v at hd⊢;rcases hu with⟨rfl,hu⟩|⟨rfl,e,hu⟩|⟨rfl,kt,e,hu⟩
 .simp only[step]at h;generalize x'.ev a8=c at hd h;split at h
  .obtain⟨rfl,hp⟩:=bS hd;refine dI.pure hM (v:=_) ?_ h (cA rfl);simp[Builtin.len_,run_underlying hu,goInt]
  .exact h.elim
 .simp only[step]at h;generalize x'.ev a8=c at hd h;split at h
  .rename_i esz elems;refine dI.pure hM (v:= .int .i64 (elems.length:Int)) ?_ h (cA rfl);cases hd<;>simp[Builtin.len_,run_underlying hu,goInt]
  .rename_i id esz lo hi;obtain⟨bk,hb,h⟩:=bh.1 h;rw[aZ]at hb;cases bk<;>simp only at h
   rename_i nN elems;obtain⟨h2,h3,h4,h5,AO⟩:=hM.bk id _ hb;obtain⟨aB,d1,d2,d3,d4,ad,rfl,ub⟩:=hd;rw[io,h2]at h;refine dI.pure hM (v:=_) ?_ h (cA rfl);simp[Builtin.len_,run_underlying hu,goInt]
  .obtain⟨ad,rfl⟩:=hd;refine dI.pure hM (v:=_) ?_ h (cA rfl);simp[Builtin.len_,run_underlying hu,goInt]
  .exact h.elim
 .simp only[step]at h;generalize x'.ev a8=c at hd h;split at h
  .rename_i id;obtain⟨bk,hb,h⟩:=bh.1 h;rw[aZ]at hb;cases bk<;>simp only at h
   rename_i es;obtain⟨c6,clock,lB,dN,DC⟩:=hM.bk id _ hb;obtain⟨aB,rfl⟩:=hd;refine dI.pure hM (v:= .int .i64 (es.length:Int)) ?_ h (cA rfl);simp[Builtin.len_,run_underlying hu,goInt,getObj,Sem.run,lB,dN]
  .exact h.elim
theorem DD(hM:aL ρ m w)(hE:bm ρ w a8 a.tmps){x:Operand}{x':X}{o:Oper}(ho:o.op= .nilCheck x)(hx:bt x=some x')(h:step P (.aY x') a8 m K):dI P (execOp a.eval o) ρ m w K:=by
 have hd:=aR hE hx;simp only[step]at h;unfold execOp;rw[ho];simp only;generalize a.eval x=v at hd⊢;generalize x'.ev a8=c at hd h;split at h
 .have RF:=hd;obtain⟨aB,rfl⟩:=hd;exact dI.pure hM rfl h RF
 .have RF:=hd;obtain⟨aB,rfl⟩:=hd;exact dI.pure hM rfl h RF
 .have RF:=hd;obtain⟨b,off,rfl,_⟩:=hd;exact dI.pure hM rfl h RF
 .exact h.elim
theorem DE(hM:aL ρ m w)(hE:bm ρ w a8 a.tmps){c x y:Operand}{c' x' y':X}(hc:bt c=some c')(hx:bt x=some x')(hy:bt y=some y')(h:step P (.pick c' x' y') a8 m K):dI P (do pure (Next.value (if<-asBool (a.eval c)then a.eval x else a.eval y))) ρ m w K:=by
 have hd:=aR hE hc;simp only[step]at h;generalize a.eval c=v at hd⊢;generalize c'.ev a8=cc at hd h;split at h
 .obtain⟨rfl,hp⟩:=bS hd;rcases cE.1 h with⟨rfl,h⟩|⟨rfl,h⟩
  .exact dI.pure hM (v:=a.eval x) (by simp[asBool]) h (aR hE hx)
  .exact dI.pure hM (v:=a.eval y) (by simp[asBool]) h (aR hE hy)
 .exact h.elim
theorem Ku{α:Type}{n i:Nat}{x y:α}(h:(fT n x)[i]? =some y):y=x/\i<n:=by
 rw[fG,acK]at h;split at h
 .exact⟨by simpa using h.symm,by assumption⟩
 .cases h
def zc(ρ:bQ)(w:World)(esz:Nat)(rows:List (List CC))(cells:Array Value):Prop:=
 cells.size=rows.length*esz/\(∀cs,cs∈rows->cs.length=esz)/\
  ∀(i:Nat)cs(j:Nat)c,rows[i]? =some cs->cs[j]? =some c->∃u,cells[i*esz+j]? =some u/\bC ρ w .none c u
theorem tw(hE:bm ρ w a8 a.tmps){esz:Nat}:
  ∀{ps:List (Nat×Operand)}{oR:List (Nat×X)}{rows lC:List (List CC)}{cells:Array Value},ki ps=some oR->ti a8 esz rows oR=some lC->zc ρ w esz rows cells->
   ∃fb,Instr.fill (fun i=>some (i*esz,esz)) cells (ps.map fun p=>(p.1,a.eval p.2))=some fb/\zc ρ w esz lC fb/\lC.length=rows.length
 | [],oR,z,z',cells,hp,hf,hz=>by simp[ki]at hp;subst hp;simp[ti]at hf;subst hf;exact⟨cells,rfl,hz,rfl⟩
 |(i,x)::r,oR,z,z',cells,hp,hf,hz=>by
  simp only[ki,SR,Q6]at hp;obtain⟨x',hx,r',hr,hp⟩:=hp;simp at hp;subst hp;simp only[ti]at hf;split at hf
  .rename_i cs eJ;split at hf
   .rename_i hlen;simp only[ZM,abU]at hlen;have hl:cs.length=esz:=Z2 hlen.1;obtain⟨h1,h2,_⟩:=ji eJ (aR hE hx);have dN:i*esz+esz<=cells.size:=by rw[hz.1];have:(i+1)*esz<=z.length*esz:=abq _ hlen.2;rwa [abE,ab3]at this
    have Ym:=rV (i*esz) (a.eval x).cells.toList 0 cells;simp only[acI]at Ym;have he:(a.eval x).cells.zipIdx.foldl (fun cs(p:Value×Nat)=>cs.setIfInBounds (i*esz+p.2) p.1) cells=((a.eval x).cells.toList.zipIdx 0).foldl (fun(cs:Array Value)(p:Value×Nat)=>cs.setIfInBounds (i*esz+p.2) p.1) cells:=by rw[<-Array.foldl_toList];simp
    have Be:Instr.fill (fun i=>some (i*esz,esz)) cells ((i,a.eval x)::r.map fun p=>(p.1,a.eval p.2))=
      Instr.fill (fun i=>some (i*esz,esz)) ((a.eval x).cells.zipIdx.foldl (fun cs(p:Value×Nat)=>cs.setIfInBounds (i*esz+p.2) p.1) cells) (r.map fun p=>(p.1,a.eval p.2)):=by
     rw[Instr.fill];simp only;rw[if_neg (by rw[h1,hl];simp;omega)]
    have UE:zc ρ w esz (bb z i cs) ((a.eval x).cells.zipIdx.foldl (fun cs(p:Value×Nat)=>cs.setIfInBounds (i*esz+p.2) p.1) cells):=by
     rw[he,bj];refine⟨by rw[Ym.1,hz.1];simp,fun eh Kv=>?_,fun i' eh j c eu hj=>?_⟩
     .rcases aaX Kv with hm|rfl
      .exact hz.2.1 eh hm
      .exact hl
     .have tx:(a.eval x).cells.toList.length=esz:=by simp[h1,hl]
      rw[Ym.2 (by rw[tx];exact dN),tx]
      by_cases NU:i=i'
      .subst NU;rw[Wl hlen.2]at eu;simp only[aag]at eu;subst eu;have kj:j<esz:=by rw[<-hl];exact(Mh.1 hj).1
       rw[if_pos om];obtain⟨u,hu,cz⟩:=h2 j c hj;exact⟨u,by rw[show i*esz+j-i*esz=j by omega];simpa using hu,cz⟩
      .rw[ZZ NU]at eu;have kj:j<esz:=by rw[<-hz.2.1 _ (Rq eu)];exact(Mh.1 hj).1
       rw[if_neg]
       .exact hz.2.2 i' eh j c eu hj
       .rcases Nat.lt_or_gt_of_ne NU with nU|nU
        .have:(i+1)*esz<=i'*esz:=abq _ nU;rw[abE,ab3]at this;omega
        .have:(i'+1)*esz<=i*esz:=abq _ nU;rw[abE,ab3]at this;omega
    obtain⟨fb,h3,h4,h5⟩:=tw hE hr hf UE;exact⟨fb,by rw[abv,Be,h3],h4,by rw[h5,bj];simp⟩
   .cases hf
  .cases hf
theorem DF(zero:Array Value)(n:Nat)(k:Nat)(hk:k<n)(hz:0<zero.size):((Array.range n).map (zero[· %zero.size]!))[k]? =zero[k%zero.size]? :=by have:k%zero.size<zero.size:=Nat.mod_lt _ hz;simp[hk,this]
theorem HH(hM:aL ρ m w)(hE:bm ρ w a8 a.tmps){t e:TypeId}{n:Nat}{ps:Array (Nat×Operand)}{z:List CC}{oR:List (Nat×X)}(hu:P.underlying t=some (.slice e))(hz:dY P e=some z)(hs:eL P e=some z.length)(dz:0<z.length)(hn:n*z.length<=2^24)(hp:ki ps.toList=some oR)(h:step P (.ln z.length z n oR) a8 m K):dI P (do pure (Next.value (<-Instr.buildSlice t n (ps.map fun(i,x)=>(i,a.eval x))))) ρ m w K:=by
 simp only[step]at h;obtain⟨rows,hf,hK⟩:=bh.1 h;rw[eW,ik,b9]at hK;obtain⟨zv,UF,Oi⟩:=Dw (ρ:=ρ) (w:=w) hz;have Yn:zv.cells.size=z.length:=Oi.1;have h0:zc ρ w z.length (fT n z) ((Array.range (n*z.length)).map (zv.cells[· %zv.cells.size]!)):=by
  refine⟨by simp[fG],fun cs eJ=>?_,fun i cs j c hi hj=>?_⟩
  .rw[fG]at eJ;rw[acd eJ]
  .obtain⟨rfl,gL⟩:=Ku hi;have kj:=(Mh.1 hj).1;have aB:i*cs.length+j<n*cs.length:=by have:(i+1)*cs.length<=n*cs.length:=abq _ gL;rw[abE,ab3]at this;omega
   rw[DF _ _ _ aB om,Yn,acJ i,ado,adi kj];exact Oi.2 j c hj
 obtain⟨cells,h1,h2,h3⟩:=tw hE hp hf h0;have hlen:rows.length=n:=by rw[h3,fG];simp
 obtain⟨ρ',g1,g2,g3⟩:=Ko hM (ty:=e) (cap:=n) (cells:=cells) (elems:=rows) (w':=w.alloc (.cells cells e)) (.inl rfl) (by rw[h2.1,hlen];exact SS _) om (by unfold maxLen;have:n*1<=n*z.length:=Nat.mul_le_mul_left _ dz;omega) h2.2.1 h2.2.2
 rw[hlen]at g3;refine⟨_,_,_,_,_,ρ',?_,.inl rfl,hK,g1,g3,g2⟩;have Be:Instr.fill (fun i=>some (i*z.length,z.length)) ((Array.range (n*z.length)).map (zv.cells[· %zv.cells.size]!)) (ps.map fun(i,x)=>(i,a.eval x)).toList=some cells:=by simpa using h1
 rcases abB n with Og|Og
 .subst Og;have e0:∀zz:Array Value,((Array.range (0*z.length)).map (zz[· %zz.size]!))= #[]:=by intro zz;simp
  rw[e0]at Be;simp only[Instr.buildSlice,Sem.run_bind,run_underlying hu,Result.andThen_ok,fq hs];rw[if_neg om,if_pos aG];simp only[Sem.run_pure,Result.andThen_ok,e0,Be];simp[newRow]
 .have fc:n*z.length≠0:=Nat.ne_of_gt (Nat.mul_pos Og dz);simp only[Instr.buildSlice,Sem.run_bind,run_underlying hu,Result.andThen_ok,fq hs];rw[if_neg om,if_neg fc];simp only[Sem.run_bind,UF,Result.andThen_ok,Sem.run_pure,Be];simp[newRow]
end
end Go.AM
