/- Part 2 of 16. -/
import Derived.Test.YtodckkkbiidffaaGreatDoorG01
import Derived.Laws.BytesArg
import Derived.RangeFuncLeaves
import Derived.RangeFuncRecord
set_option linter.unusedVariables false
set_option linter.unusedSimpArgs false
set_option maxRecDepth 100000
set_option maxHeartbeats 0
namespace Go.AM
inductive X where
 |t (n:Nat)
 |c (v:CV)
inductive Kd where
 |b
 |i
 |s
inductive Ky where
 |i (k:IntKind)
 |s
 |b
inductive I where
 |aK (x:X)
 |pick (c a b:X)
 |alloc (z:List CC)
 |box (x:X)
 |build (z:List CC) (parts:List (Nat×Nat×X))
 |nC (esz:Nat) (z:List CC) (len:Nat) (parts:List (Nat×X))
 |load (agg:Bool) (n:Nat) (a:X)
 |store (n:Nat) (a x:X)
 |cj (off:Nat) (a:X)
 |UK (agg:Bool) (off n:Nat) (a:X)
 |cw (esz:Nat) (a i:X)
 |BN (len esz:Nat) (a i:X)
 |BO (a i:X)
 |aJ (op:BinOp) (x y:X)
 |Kx (neg:Bool) (ks:List Kd) (x y:X)
 |beq (neg:Bool) (x y:X)
 |un (op:UnOp) (x:X)
 |conv (k:IntKind) (x:X)
 |UL (x:X)
 |UM (x:X)
 |Ub (x:X)
 |nR (esz:Nat) (x:X) (lo hi mx:Option X)
 |HU (x:X) (lo hi:Option X)
 |fn (f:Nat) (eh:List X)
 |len (k:Nat) (x:X)
 |oZ (esz bytes:Nat) (dst src:X)
 |call (f:X) (args:List X)
 |ext (x:X) (i:Nat)
 |aP (x:X)
 |xW (neg:Bool) (x:X)
 |ua
 |o4 (esz bytes:Nat) (z:List CC) (n c:X)
 |zQ (z:RV) (kk:Ky) (m k:X) (ok:Bool)
 |vm (kk:Ky) (m k v:X)
 |jO (mx:Bool) (xs:List X)
 |Kz (kk:Ky) (m k:X)
 |copy (esz:Nat) (dst src:X)
 |Uc (esz:Nat) (z:List CC) (x:X)
 |KA (agg:Bool) (n sz:Nat) (x i:X)
 |XH (x:X)
 |UN (x:X)
 |sH (x:X)
 |UO (x:X)
structure LO where
 dst:Option Nat
 BB:I
 guard:Option (Nat×Bool)
inductive nD where
 |nil
 |cons (i:Nat) (KB:Option (List Nat)) (r:nD)
 |vn (a b:nD)
inductive LC where
 |skip
 |ai (ops:List LO)
 |bR (bS:List LO) (pY:List nD)
 |seq (a b:LC)
 |cond (x:X) (a b:LC)
 |block (id:Nat) (b:LC)
 |loop (b:LC)
 |exit (id:Nat)
 |ret
 |cS (a:LC)
 |xX (x:X) (p:Nat) (a b:LC)
def LC.er:LC->LC
 | .seq a b=>.seq a.er b.er
 | .cond x a b=>.cond x a.er b.er
 | .block id b=>.block id b.er
 | .loop b=>.loop b.er
 | .cS a=>a.er
 | .xX x p a b=>.xX x p a.er b.er
 | .skip=>.skip
 | .ai ops=>.ai ops
 | .bR a b=>.bR a b
 | .exit id=>.exit id
 | .ret=>.ret
def LC.qU:LC->Bool
 | .seq a b=>a.qU&&b.qU
 | .cond _ a b=>a.qU&&b.qU
 | .block _ b=>b.qU
 | .loop b=>b.qU
 | .cS a=>a.qU
 | .xX _ _ _ _=>false
 |_=>true
inductive Rv where
 |tmp (t:Nat)
 |cell (agg:Bool) (n:Nat) (t:Nat)
structure LF where
 n:Nat
 lK:List Rv
 code:LC
def LF.er(f:LF):LF:=⟨f.n,f.lK,f.code.er⟩
def cD{α:Type}:List α->Nat->Option α
 | [],_=>none
 |x::_,0=>some x
 |_::r,k+1=>cD r k
def aW{α:Type}:List α->Nat->α->List α
 | [],_,_=>[]
 |_::r,0,y=>y::r
 |x::r,k+1,y=>x::aW r k y
def iW{α:Type}{β:Sort _}:List α->(List α->β)->β
 | [],k=>k []
 |x::r,k=>iW r λr'=>k (x::r')
def kh:List CV->Nat->CV
 | [],_=>.ap
 |x::_,0=>x
 |_::r,k+1=>kh r k
def X.ev(e:List CV):X->CV
 | .t n=>kh e n
 | .c v=>v
def ok{α:Type}(o:Option α)(K:α->Prop):Prop:= @Option.rec α (λ_=>Prop) False K o
def bB(t:Bool)(A B:Prop):Prop:= @Bool.rec (λ_=>Prop) B A t
def iX:List CC->Nat->Nat->Option (List CC)
 |_,0,0=>some []
 | [],_,_=>none
 |c::cs,0,n+1=>match iX cs 0 n with|some l=>some (c::l)|none=>none
 |_::cs,j+1,n=>iX cs j n
def gG:List CC->Nat->List CC->Option (List CC)
 |cs,0,[]=>some cs
 | [],_,_=>none
 |_::cs,0,x::xs=>match gG cs 0 xs with|some l=>some (x::l)|none=>none
 |c::cs,j+1,xs=>match gG cs j xs with|some l=>some (c::l)|none=>none
def vo:List Dt->Nat->Option (List CC)
 |_,0=>some []
 | [],_+1=>none
 |d::ds,n+1=>match vo ds n with|some l=>some (.aa d::l)|none=>none
def cellsOf:CV->Option (List CC)
 | .rv (.one c)=>some [c]
 | .rv (.agg cs)=>some cs
 |_=>none
def D2:CV->Option RV
 | .rv r=>some r
 |_=>none
def KC(agg:Bool)(l:List CC):Option CV:=
 match agg,l with
 |true,l=>some (.rv (.agg l))
 |false,[c]=>some (.rv (.one c))
 |false,_=>none
def iY:List CC->Bool
 | []=>true
 | .dV _ _::_=>false
 |_::r=>iY r
def dx{α:Type}(l:List α):Int->Option α
 | .ofNat k=>cD l k
 | .negSucc _=>none
def dN(n:Int)(len:Nat):Option Nat:=
 match n with
 | .ofNat k=>match Nat.blt k len with|true=>some k|false=>none
 | .negSucc _=>none
def ip(a b:Nat):Nat:=match a with|0=>b|a=>a+b
def lenOf(elems:Nat)(lo:Nat)(hi:Option Nat):Nat:=
 match lo,hi with
 |0,none=>elems
 |0,some h=>h
 |lo,none=>elems-lo
 |lo,some h=>h-lo
def bV{α:Type}(l:List α)(lo:Nat)(hi:Option Nat):List α:=
 match lo,hi with
 |0,none=>l
 |0,some h=>l.take h
 |lo,none=>l.drop lo
 |lo,some h=>(l.take h).drop lo
def nZ(e:List CV):List CC->List (Nat×Nat×X)->Option (List CC)
 |z,[]=>some z
 |z,(off,sz,x)::r=>match cellsOf (x.ev e)with
  |some cs=>match Nat.beq cs.length sz with
   |true=>match gG z off cs with
    |some z'=>nZ e z' r
    |none=>none
   |false=>none
  |none=>none
def ub(e:List CV)(esz:Nat):List (List CC)->List (Nat×X)->Option (List (List CC))
 |z,[]=>some z
 |z,(i,x)::r=>match cellsOf (x.ev e)with
  |some cs=>match Nat.beq cs.length esz&&Nat.blt i z.length with
   |true=>ub e esz (aW z i cs) r
   |false=>none
  |none=>none
def gw{α:Type}:Nat->α->List α
 |0,_=>[]
 |n+1,x=>x::gw n x
def Gt(e:List CV):List X->List CV
 | []=>[]
 |x::r=>x.ev e::Gt e r
def vp:List CV->Option (List Nat)
 | []=>some []
 | .rv (.one (.ptr id 0))::r=>match vp r with|some l=>some (id::l)|none=>none
 |_=>none
def u6:List Nat->List CV
 | []=>[]
 |id::r=>.rv (.one (.ptr id 0))::u6 r
def gh{α:Type}:List α->List α->List α
 | [],l=>l
 |x::r,l=>x::gh r l
def vq{β:Sort _}(m0:Mem):Mem->List Nat->(Nat->β)->β
 | [],n::_,k=>k n
 |_::r,_::ls,k=>vq m0 r ls k
 |_,[],k=>k m0.length
def nc{β:Sort _}(m:Mem)(k:Nat->β):β:=
 vq m m [0,1,2,3,4,5,6,7,8,9,10,11,12,13,14,15,16,17,18,19,20,21,22,23,24,25,26,27,28,29,30,31,32,33,34,35,36,37,38,39,40,41,42,43,44,45,46,47,48,49,50,51,52,53,54,55,56,57,58,59,60,61,62,63] k
def an(k:IntKind)(n:Int):CV:= .rv (.one (.aa (.val (.int k n))))
def aE(b:Bool):CV:= .rv (.one (.aa (.val (.bool b))))
def eL(s:ByteArray):CV:= .rv (.one (.aa (.val (.string s))))
def HV(op:BinOp):Value->Value->Option Value
 | .int k a,.int k' b=>
  match op with
  | .shl=>match decide (b<0)with|false=>some (.int k (k.wrap (a*2^(min b.toNat k.bits))))|true=>none
  | .shr=>match decide (b<0)with|false=>some (.int k (a.fdiv (2^(min b.toNat k.bits))))|true=>none
  |op=>match decide (k=k')with
   |false=>none
   |true=>match op with
    | .add=>some (.int k (k.wrap (a+b)))
    | .sub=>some (.int k (k.wrap (a-b)))
    | .mul=>some (.int k (k.wrap (a*b)))
    | .quo=>match decide (b=0)with|false=>some (.int k (k.wrap (a.tdiv b)))|true=>none
    | .rem=>match decide (b=0)with|false=>some (.int k (a.tmod b))|true=>none
    | .and=>some (.int k (k.wrap (BitVec.ofInt k.bits a&&&BitVec.ofInt k.bits b).toNat))
    | .or=>some (.int k (k.wrap (BitVec.ofInt k.bits a|||BitVec.ofInt k.bits b).toNat))
    | .xor=>some (.int k (k.wrap (BitVec.ofInt k.bits a^^^BitVec.ofInt k.bits b).toNat))
    | .andNot=>some (.int k (k.wrap (BitVec.ofInt k.bits a&&& ~~~ BitVec.ofInt k.bits b).toNat))
    | .eql=>some (.bool (a==b))
    | .neq=>some (.bool (a !=b))
    | .lss=>some (.bool (decide (a<b)))
    | .leq=>some (.bool (decide (a<=b)))
    | .gtr=>some (.bool (decide (a>b)))
    | .geq=>some (.bool (decide (a>=b)))
    |_=>none
 | .string a,.string b=>
  match op with
  | .add=>match decide (((a.size+b.size:Nat):Int)>IntKind.i64.max)with|false=>some (.string (a++b))|true=>none
  | .eql=>some (.bool (a.toList==b.toList))
  | .neq=>some (.bool (!(a.toList==b.toList)))
  | .lss=>some (.bool (Op.bytesLess a.toList b.toList))
  | .leq=>some (.bool (Op.bytesLess a.toList b.toList||a.toList==b.toList))
  | .gtr=>some (.bool (!(Op.bytesLess a.toList b.toList||a.toList==b.toList)))
  | .geq=>some (.bool (!(Op.bytesLess a.toList b.toList)))
  |_=>none
 |_,_=>none
def XI(op:UnOp):Value->Option Value
 | .bool b=>match op with| .not=>some (.bool (!b))|_=>none
 | .int k n=>match op with| .neg=>some (.int k (k.wrap (0-n)))|_=>none
 |_=>none
def OM:Kd->Value->Value->Option Bool
 | .i,.int k a,.int k' b=>match decide (k=k')with|true=>some (a==b)|false=>none
 | .s,.string a,.string b=>some (a.toList==b.toList)
 | .b,.bool a,.bool b=>some (a==b)
 |_,_,_=>none
def kj:List Kd->List CC->List CC->Option Bool
 | [],[],[]=>some true
 |k::ks,.aa (.val a)::r,.aa (.val b)::s=>match OM k a b,kj ks r s with
  |some x,some y=>some (x&&y)
  |_,_=>none
 |_,_,_=>none
def aq(P:Program)(f:Nat)(args:List CV)(m:Mem)(K:CV->Mem->Prop):Prop:=
 (∃fn,P.funcs[f]? =some fn/\fn.body.isSome=true/\(fn.name== "runtime.NumGoroutine")=false)/\
 ∀(U:bF)(w:World)(vs:List Value),au U m w->vs.length=args.length->(∀(i:Nat)c,args[i]? =some c->∃v,vs[i]? =some v/\bZ U w c v)->
  Calls P f vs.toArray w λe w'=>∃v r m' U',e= .returned v/\K r m'/\au U' m' w'/\bZ U' w' r v/\Ext U m w U' m' w'
def fV{β:Sort _}(v:CV)(k:CV->β):β:=
 match v with
 | .ap=>k .ap
 | .undef=>k .undef
 | .rv r=>match r with
  | .one c=>k (.rv (.one c))
  | .agg cs=>iW cs λcs=>k (.rv (.agg cs))
 | .bz rs=>k (.bz rs)
def jA(a b:Value):Option Bool:=
 match a,b with
 | .int k x,.int k' y=>match decide (k=k')with|true=>some (x==y)|false=>none
 | .string x,.string y=>some (x==y)
 | .bool x,.bool y=>some (x==y)
 |_,_=>none
def BP(k:Value):List ME->Option (Option RV)
 | []=>some none
 |e::es=>match jA k e.key with
  |some true=>some (some e.val)
  |some false=>BP k es
  |none=>none
def KD(k:Value)(v:RV):List ME->Option (List ME)
 | []=>some [⟨k,v⟩]
 |e::es=>match jA k e.key with
  |some true=>some (⟨k,v⟩::es)
  |some false=>match KD k v es with|some l=>some (e::l)|none=>none
  |none=>none
def iA(k:Value):List MO->Nat->Option (Option (Nat×MV))
 | [],_=>some none
 |e::es,n=>match jA k e.key with
  |some true=>some (some (n,e.val))
  |some false=>iA k es (n+1)
  |none=>none
def mw(k:Value)(v:MV):List MO->Option (List MO)
 | []=>some [⟨k,v⟩]
 |e::es=>match jA k e.key with
  |some true=>some (⟨k,v⟩::es)
  |some false=>match mw k v es with|some l=>some (e::l)|none=>none
  |none=>none
def vr(e:List CV)(m:Mem)(agg:Bool)(n:Nat)(a:CV)(K:CV->Prop):Prop:=
 match a with
 | .rv (.one (.ptr id j))=>ok (cD m id) λbk=>match bk with
  | .var cs=>ok (iX cs j n) λl=>ok (KC agg l) K
  |_=>False
 | .rv (.one (.nb id esz i j))=>ok (cD m id) λbk=>match bk with
  | .row n8 elems=>bB (Nat.beq esz n8) (ok (cD elems i) λcells=>ok (iX cells j n) λl=>bB (iY l) (ok (KC agg l) K) False) False
  |_=>False
 | .rv (.one (.qS ds))=>ok (vo ds n) λl=>ok (KC agg l) K
 |_=>False
def fl(m:Mem)(esz:Nat)(v:CV):Option (List (List CC)):=
 match v with
 | .rv (.one (.aa (.sl e elems)))=>match Nat.beq e esz with
  |true=>some (elems.map λds=>ds.map .aa)
  |false=>none
 | .rv (.one (.row id e lo hi))=>match cD m id with
  |some (.row e2 rows)=>match Nat.beq e esz,Nat.beq e2 esz with
   |true,true=>some (bV rows lo hi)
   |_,_=>none
  |_=>none
 | .rv (.one .aO)=>some []
 |_=>none
def iT(m:Mem)(v:CV):Mem:=
 match v with
 | .rv (.one (.row id _ _ _))=>aW m id .aS
 |_=>m
def vu(v:CV):Bool:=
 match v with
 | .rv (.one (.row _ _ _ _))=>true
 | .rv (.one .aO)=>true
 |_=>false
def Gu(a b:CV):Bool:=
 match a,b with
 | .rv (.one (.row i _ _ _)),.rv (.one (.row j _ _ _))=>!(Nat.beq i j)
 |_,_=>true
def CC.iY:CC->Bool
 | .dV _ _=>false
 |_=>true
def pZ:List CC->Bool
 | []=>true
 |c::r=>c.iY&&pZ r
def fo:List (List CC)->Bool
 | []=>true
 |c::r=>pZ c&&fo r
def cP{α:Type}(l:List α)(h:Nat)(E:List α):List α:=l.take h++(E++l.drop (h+E.length))
def p0(hi:Option Nat)(n:Nat):Nat:=match hi with|some h=>h|none=>n
def p4(v:CV):Option Nat:=
 match v with
 | .rv (.one (.aa (.val (.int _ (.ofNat k)))))=>some k
 |_=>none
def kO(e:List CV)(o:Option X)(d:Nat):Option Nat:=
 match o with
 |none=>some d
 |some x=>p4 (x.ev e)
def XJ(v:CV):Bool:=
 match v with
 | .rv (.one (.aa (.val (.int _ n))))=>decide (n=0)
 |_=>false
def D3(e:List CV)(o:Option X):Bool:=
 match o with
 |none=>false
 |some x=>XJ (x.ev e)
def KE(v:CV):Bool:=
 match v with
 | .rv (.one (.aa (.sl _ _)))=>true
 | .rv (.one (.row _ _ _ _))=>true
 | .rv (.one .aO)=>true
 |_=>false
def vy:List (List CC)->Option (List Int)
 | []=>some []
 | [.aa (.val (.int .u8 n))]::r=>match vy r with|some l=>some (n::l)|none=>none
 |_=>none
def p5(s:ByteArray):List (List CC):=s.data.toList.map λb=>[.aa (.val (.int .u8 b.toNat))]
def KF(m:Mem)(v:CV):Option (List ME):=
 match v with
 | .rv (.one (.map id))=>match cD m id with|some (.mp es)=>some es|_=>none
 | .rv (.one (.aa (.val (.map none))))=>some []
 |_=>none
def R1(m:Mem)(v:CV):Option (Nat×Nat×List MO×Option (List Nat×Nat)):=
 match v with
 | .rv (.one (.map id))=>match cD m id with|some (.mo esz es so)=>some (id,esz,es,so)|_=>none
 |_=>none
def pq:Ky->Value->Bool
 | .i k,.int k' _=>decide (k'=k)
 | .s,.string _=>true
 | .b,.bool _=>true
 |_,_=>false
def vz(okF:Bool)(z:RV)(o:Option RV):CV:=
 match okF,o with
 |false,none=>.rv z
 |false,some v=>.rv v
 |true,none=>.bz [z,.one (.aa (.val (.bool false)))]
 |true,some v=>.bz [v,.one (.aa (.val (.bool true)))]
def qV:List ME->Option (List (Value×Value))
 | []=>some []
 |⟨k,.one (.aa (.val v))⟩::r=>match cE k&&cE v with
  |true=>(qV r).map ((k,v):: ·)
  |false=>none
 |_=>none
def step(P:Program)(i:I)(e:List CV)(m:Mem)(K:CV->Mem->Prop):Prop:=
 match i with
 | .aK x=>K (x.ev e) m
 | .pick c a b=>match c.ev e with
  | .rv (.one (.aa (.val (.bool t))))=>bB t (K (a.ev e) m) (K (b.ev e) m)
  |_=>False
 | .alloc z=>nc m λn=>K (.rv (.one (.ptr n 0))) (gh m [.var z])
 | .box x=>ok (cellsOf (x.ev e)) λcs=>nc m λn=>K (.rv (.one (.ptr n 0))) (gh m [.var cs])
 | .build z ps=>ok (nZ e z ps) λcs=>K (.rv (.agg cs)) m
 | .nC esz z len ps=>ok (ub e esz (gw len z) ps) λrows=>iW rows λrows=>nc m λn=>K (.rv (.one (.row n esz 0 none))) (gh m [.row esz rows])
 | .load agg n a=>vr e m agg n (a.ev e) λv=>K v m
 | .store n a x=>ok (cellsOf (x.ev e)) λxs=>bB (Nat.beq xs.length n) (match a.ev e with
  | .rv (.one (.ptr id j))=>ok (cD m id) λbk=>match bk with
   | .var cs=>ok (gG cs j xs) λeR=>K .undef (aW m id (.var eR))
   |_=>False
  | .rv (.one (.nb id esz i j))=>ok (cD m id) λbk=>match bk with
   | .row n8 elems=>bB (Nat.beq esz n8) (ok (cD elems i) λcells=>bB (iY cells) (ok (gG cells j xs) λfc=>K .undef (aW m id (.row n8 (aW elems i fc)))) False) False
   |_=>False
  |_=>False) False
 | .cj off a=>match a.ev e with
  | .rv (.one (.ptr id j))=>K (.rv (.one (.ptr id (j+off)))) m
  | .rv (.one (.nb id esz i j))=>K (.rv (.one (.nb id esz i (j+off)))) m
  | .rv (.one (.qS ds))=>K (.rv (.one (.qS (ds.drop off)))) m
  |_=>False
 | .UK agg off n a=>match a.ev e with
  | .rv (.agg cs)=>ok (iX cs off n) λl=>ok (KC agg l) λv=>K v m
  |_=>False
 | .cw esz a i=>match i.ev e with
  | .rv (.one (.aa (.val (.int _ n))))=>match a.ev e with
   | .rv (.one (.aa (.sl n8 elems)))=>bB (Nat.beq esz n8) (ok (dx elems n) λds=>K (.rv (.one (.qS ds))) m) False
   | .rv (.one (.row id n8 lo hi))=>ok (cD m id) λbk=>match bk with
    | .row qW elems=>bB (Nat.beq esz n8) (bB (Nat.beq esz qW) (ok (dN n (lenOf elems.length lo hi)) λk=>K (.rv (.one (.nb id esz (ip lo k) 0))) m) False) False
    |_=>False
   |_=>False
  |_=>False
 | .BN len esz a i=>match i.ev e with
  | .rv (.one (.aa (.val (.int _ n))))=>match a.ev e with
   | .rv (.one (.ptr id j))=>ok (dN n len) λk=>K (.rv (.one (.ptr id (j+k*esz)))) m
   | .rv (.one (.nb id s i' j))=>ok (dN n len) λk=>K (.rv (.one (.nb id s i' (j+k*esz)))) m
   | .rv (.one (.qS ds))=>ok (dN n len) λk=>K (.rv (.one (.qS (ds.drop (k*esz))))) m
   |_=>False
  |_=>False
 | .BO a i=>match i.ev e with
  | .rv (.one (.aa (.val (.int _ n))))=>match a.ev e with
   | .rv (.one (.aa (.val (.string s))))=>ok (dx s.data.toList n) λb=>K (an .u8 b.toNat) m
   |_=>False
  |_=>False
 | .aJ op x y=>match x.ev e with
  | .rv (.one (.aa (.val a)))=>match y.ev e with
   | .rv (.one (.aa (.val b)))=>ok (HV op a b) λv=>K (.rv (.one (.aa (.val v)))) m
   |_=>False
  |_=>False
 | .Kx neg n x y=>match x.ev e with
  | .rv (.agg cs)=>match y.ev e with
   | .rv (.agg ds)=>ok (kj n cs ds) λb=>K (aE (match neg with|true=>!b|false=>b)) m
   |_=>False
  |_=>False
 | .beq neg x y=>match x.ev e with
  | .rv (.one (.aa (.val (.bool a))))=>match y.ev e with
   | .rv (.one (.aa (.val (.bool b))))=>K (aE (match neg with|true=>!(a==b)|false=>a==b)) m
   |_=>False
  |_=>False
 | .un op x=>match x.ev e with
  | .rv (.one (.aa (.val a)))=>ok (XI op a) λv=>K (.rv (.one (.aa (.val v)))) m
  |_=>False
 | .conv k x=>match x.ev e with
  | .rv (.one (.aa (.val (.int _ n))))=>K (an k (k.wrap n)) m
  |_=>False
 | .UL x=>match x.ev e with
  | .rv (.one (.aa (.val (.string s))))=>K (eL s) m
  |_=>False
 | .fn f eh=>ok (vp (Gt e eh)) λjW=>K (.rv (.one (.fn f jW))) m
 | .len 1 x=>match x.ev e with
  | .rv (.one (.aa (.sl _ elems)))=>K (an .i64 (elems.length:Int)) m
  | .rv (.one (.row id _ lo hi))=>ok (cD m id) λbk=>match bk with
   | .row _ elems=>K (an .i64 (lenOf elems.length lo hi:Int)) m
   |_=>False
  | .rv (.one .aO)=>K (an .i64 0) m
  |_=>False
 | .len 0 x=>match x.ev e with
  | .rv (.one (.aa (.val (.string s))))=>K (an .i64 (s.size:Int)) m
  |_=>False
 | .len 2 x=>match x.ev e with
  | .rv (.one (.map id))=>ok (cD m id) λbk=>match bk with
   | .mp es=>K (an .i64 (es.length:Int)) m
   |_=>False
  |_=>False
 | .call f args=>match f.ev e with
  | .rv (.one (.fn f eh))=>aq P f (gh (Gt e args) (u6 eh)) m K
  |_=>False
 | .ext x i=>match x.ev e with
  | .bz rs=>ok (cD rs i) λr=>K (.rv r) m
  |_=>False
 | .oZ esz bytes dst src=>bB (vu (dst.ev e)&&Gu (dst.ev e) (src.ev e)) (ok (fl m esz (dst.ev e)) λE1=>ok (fl m esz (src.ev e)) λE2=>
   (E1.length+E2.length)*bytes<=140737488355328/\nc m λn=>K (.rv (.one (.row n esz 0 none))) (gh (iT (iT m (dst.ev e)) (src.ev e)) [.row esz (E1++E2)]))
   (match dst.ev e with
   | .rv (.one (.row id e1 lo (some h)))=>ok (cD m id) λbk=>match bk with
    | .row e2 rows=>ok (fl m esz (src.ev e)) λE2=>bB (Nat.beq lo 0&&(Nat.beq e1 esz&&(Nat.beq e2 esz&&(Nat.ble 1 rows.length&&(Nat.ble (h+E2.length) rows.length&&fo E2)))))
     (rows.length*bytes<=140737488355328/\K (.rv (.one (.row id esz 0 (some (h+E2.length))))) (aW m id (.row esz (cP rows h E2)))) False
    |_=>False
   |_=>False)
 | .xW neg x=>match x.ev e with
  | .rv (.one (.aa (.sl _ elems)))=>bB (Nat.beq elems.length 0) (K (aE true) m/\K (aE false) m) (K (aE neg) m)
  | .rv (.one (.row id _ lo hi))=>ok (cD m id) λbk=>match bk with
   | .row _ elems=>bB (Nat.beq (lenOf elems.length lo hi) 0) (K (aE true) m/\K (aE false) m) (K (aE neg) m)
   |_=>False
  | .rv (.one .aO)=>K (aE true) m/\K (aE false) m
  |_=>False
 | .nR esz x lo hi (some mx)=>bB (lo.isNone&&D3 e hi&&XJ (mx.ev e)&&KE (x.ev e)) (K (.rv (.one .aO)) m)
   (ok (kO e lo 0) λl=>ok (fl m esz (x.ev e)) λE=>ok (kO e hi E.length) λh=>ok (p4 (mx.ev e)) λUP=>bB (lo.isSome&&(hi.isSome&&(Nat.ble l h&&(Nat.ble h UP&&Nat.ble UP E.length)))) (K .ap m) False)
 | .nR esz x lo hi none=>ok (kO e lo 0) λl=>match x.ev e with
  | .rv (.one (.aa (.sl e2 elems)))=>bB (Nat.beq e2 esz) (ok (kO e hi elems.length) λh=>bB (Nat.ble l h&&Nat.ble h elems.length) (K (.rv (.one (.aa (.sl esz ((elems.take h).drop l))))) m) False) False
  | .rv (.one (.row id e2 D4 u7))=>ok (cD m id) λbk=>match bk with
   | .row _ elems=>bB (Nat.beq e2 esz) (ok (kO e hi (lenOf elems.length D4 u7)) λh=>bB (Nat.ble l h&&Nat.ble h (elems.length-D4)) (K (.rv (.one (.row id esz (ip D4 l) (some (ip D4 h))))) m) False) False
   |_=>False
  |_=>False
 | .HU x lo hi=>match x.ev e with
  | .rv (.one (.aa (.val (.string s))))=>ok (kO e lo 0) λl=>ok (kO e hi s.size) λh=>bB (Nat.ble l h&&Nat.ble h s.size) (K (eL (s.extract l h)) m) False
  |_=>False
 | .aP x=>match x.ev e with
  | .rv (.one (.ptr id j))=>K (.rv (.one (.ptr id j))) m
  | .rv (.one (.nb id s i j))=>K (.rv (.one (.nb id s i j))) m
  | .rv (.one (.qS ds))=>K (.rv (.one (.qS ds))) m
  |_=>False
 | .Ub x=>ok (fl m 1 (x.ev e)) λE=>ok (vy E) λxs=>K (eL (strOfNums xs)) m
 | .UM x=>match x.ev e with
  | .rv (.one (.aa (.val (.string s))))=>s.size<=140737488355328/\nc m λn=>K (.rv (.one (.row n 1 0 none))) (gh m [.row 1 (p5 s)])
  |_=>False
 | .jO mx [x,y]=>match x.ev e with
  | .rv (.one (.aa (.val (.int k a))))=>match y.ev e with
   | .rv (.one (.aa (.val (.int _ b))))=>match mx with
    |true=>K (an k (if b>a then b else a)) m
    |false=>K (an k (if b<a then b else a)) m
   |_=>False
  |_=>False
 | .XH x=>match x.ev e with
  | .rv (.one (.row id e1 lo hi))=>ok (cD m id) λbk=>match bk with
   | .row esz rows=>bB (Nat.beq esz 1&&Nat.blt lo rows.length) (K (.rv (.one (.row id e1 lo hi))) m) False
   |_=>False
  |_=>False
 | .Uc esz z x=>match x.ev e with
  | .rv (.one (.row id e1 lo hi))=>ok (cD m id) λbk=>match bk with
   | .row e2 rows=>bB (Nat.beq e1 esz&&(Nat.beq e2 esz&&Nat.ble (p0 hi rows.length) rows.length))
     (bB (Nat.blt lo (p0 hi rows.length)) (K (.bz []) (aW m id (.row esz (cP rows lo (gw (p0 hi rows.length-lo) z))))) (K (.bz []) m)) False
   |_=>False
  | .rv (.one .aO)=>K (.bz []) m
  |_=>False
 | .copy esz d s=>ok (fl m esz (s.ev e)) λE=>bB (Nat.beq E.length 0) (bB (KE (d.ev e)) (K (an .i64 0) m) False)
   (match d.ev e with
   | .rv (.one (.row id e1 lo hi))=>ok (cD m id) λbk=>match bk with
    | .row e2 rows=>bB (Nat.beq e1 esz&&(Nat.beq e2 esz&&(Nat.ble (p0 hi rows.length) rows.length&&(Nat.ble (lo+E.length) (p0 hi rows.length)&&fo E)))) (K (an .i64 (E.length:Int)) (aW m id (.row esz (cP rows lo E)))) False
    |_=>False
   |_=>False)
 | .KA agg n sz x i=>match i.ev e with
  | .rv (.one (.aa (.val (.int _ j))))=>match x.ev e with
   | .rv (.agg cs)=>ok (dN j n) λk=>ok (iX cs (k*sz) sz) λl=>ok (KC agg l) λv=>K v m
   |_=>False
  |_=>False
 | .UN x=>match x.ev e with
  | .rv (.one (.map id))=>ok (cD m id) λbk=>match bk with
   | .mp es=>ok (qV es) λl=>nc m λn=>K (.rv (.one (.ptr n 0))) (gh (aW m id .aS) [.it [] l])
   | .mo esz es none=>∀(st:List Nat)(gU:Nat),st.length=es.length->st.Nodup->(∀s,s∈st->s<gU)->nc m λn=>K (.rv (.one (.ptr n 0))) (gh (aW m id (.mo esz es (some (st,gU)))) [.iw id gU []])
   |_=>False
  |_=>False
 | .sH x=>match x.ev e with
  | .rv (.one (.ptr id 0))=>ok (cD m id) λbk=>match bk with
   | .it _ left=>(left=[]->K (.bz [.one (.aa (.val (.bool false)))]) m)/\∀(i:Nat)(k v:Value)(QM:List (Value×Value)),left[i]? =some (k,v)->QM=left.eraseIdx i->K (.bz [.one (.aa (.val (.bool true))),.one (.aa (.val k)),.one (.aa (.val v))]) (aW m id (.it [(k,v)] QM))
   | .iw mid gU seen=>ok (cD m mid) λb2=>match b2 with
    | .mo esz es (some (st,c2))=>c2=gU/\((∀s,s∈st->s∈seen)->K (.bz [.one (.aa (.val (.bool false)))]) (aW m mid (.mo esz es none)))/\
     ∀(i:Nat)(x:MO)(s:Nat),es[i]? =some x->st[i]? =some s->¬s∈seen->K (.bz [.one (.aa (.val (.bool true))),.one (.aa (.val x.key)),.one .ap]) (aW m id (.iw mid gU (s::seen)))
    |_=>False
   |_=>False
  |_=>False
 | .UO x=>match x.ev e with
  | .rv (.one (.ptr id 0))=>ok (cD m id) λbk=>match bk with
   | .it (p::_) _=>K (.bz [.one (.aa (.val p.1)),.one (.aa (.val p.2))]) m
   | .iw mid gU (s::_)=>ok (cD m mid) λb2=>match b2 with
    | .mo _ es (some (st,c2))=>c2=gU/\∃(i:Nat)(x:MO),es[i]? =some x/\st[i]? =some s/\K (.bz [.one (.aa (.val x.key)),.one .ap]) m
    |_=>False
   |_=>False
  |_=>False
 | .ua=>nc m λn=>K (.rv (.one (.map n))) (gh m [.mp []])
 | .o4 esz bytes z nx cx=>ok (p4 (nx.ev e)) λl=>ok (p4 (cx.ev e)) λc=>bB (Nat.beq l c) (c*bytes<=140737488355328/\nc m λn=>K (.rv (.one (.row n esz 0 none))) (gh m [.row esz (gw l z)])) False
 | .zQ z kk mx kx okF=>match kx.ev e with
  | .rv (.one (.aa (.val kv)))=>bB (pq kk kv) (match R1 m (mx.ev e)with
   |some (id,esz,es,so)=>ok (iA kv es 0) λo=>match o with
    |none=>K (vz okF z none) m
    |some (_,.row n)=>K (vz okF z (some (.one (.row n esz 0 none)))) m
    |some (i,.dV l)=>nc m λn=>K (vz okF z (some (.one (.row n esz 0 none)))) (gh (aW m id (.mo esz (aW es i ⟨kv,.row n⟩) so)) [.row esz (l.map λds=>ds.map .aa)])
   |none=>ok (KF m (mx.ev e)) λes=>ok (BP kv es) λo=>K (vz okF z o) m) False
  |_=>False
 | .vm kk mx kx vx=>match mx.ev e with
  | .rv (.one (.map id))=>match kx.ev e with
   | .rv (.one (.aa (.val kv)))=>bB (pq kk kv) (ok (cD m id) λbk=>match bk with
    | .mp es=>ok (D2 (vx.ev e)) λv=>ok (KD kv v es) λbx=>K .undef (aW m id (.mp bx))
    | .mo esz es none=>match vx.ev e with
     | .rv (.one (.row n e1 lo hi))=>ok (cD m n) λb2=>match b2 with
      | .row e2 rows=>bB (Nat.beq e1 esz&&Nat.beq e2 esz) (∃(ds:List (List Dt))(bx:List MO),rows=ds.map (λd=>d.map .aa)/\mw kv (.dV (bV ds lo hi)) es=some bx/\K .undef (aW (aW m n .aS) id (.mo esz bx none))) False
      |_=>False
     |_=>False
    |_=>False) False
   |_=>False
  |_=>False
 | .Kz kk mx kx=>match mx.ev e with
  | .rv (.one (.map id))=>match kx.ev e with
   | .rv (.one (.aa (.val kv)))=>bB (pq kk kv) (ok (cD m id) λbk=>match bk with
    | .mo esz es (some (st,gU))=>ok (iA kv es 0) λo=>match o with
     |none=>K (.bz []) m
     |some (i,_)=>K (.bz []) (aW m id (.mo esz (es.eraseIdx i) (some (st.eraseIdx i,gU))))
    |_=>False) False
   |_=>False
  |_=>False
 |_=>False
def vA:Value->Option CC
 | .slice none 0 0=>some .aO
 |v=>match cE v with|true=>some (.aa (.val v))|false=>none
def bm:Operand->Option X
 | .tmp t=>some (.t t)
 | .const v=>(vA v).map λc=>.c (.rv (.one c))
 | .func f=>some (.c (.rv (.one (.fn f []))))
 | .global _=>none
def uc:List Operand->Option (List X)
 | []=>some []
 |x::r=>do some ((<-bm x)::(<-uc r))
def ia:Option Operand->Option (Option X)
 |none=>some none
 |some x=>do some (some (<-bm x))
def eM(P:Program)(t:TypeId):Option Nat:=(P.info? t).map (·.size)
def ek(P:Program)(t:TypeId):Option Bool:=(P.underlying t).map λ| .struct _| .array _ _=>true|_=>false
def my:List Value->Option (List CC)
 | []=>some []
 |v::r=>do some ((<-vA v)::(<-my r))
def dW(P:Program)(t:TypeId):Option (List CC):=do my (<-(<-P.info? t).zero).cells.toList
def mz(P:Program)(fs:Array Field):List (Nat×Operand)->Option (List (Nat×Nat×X))
 | []=>some []
 |(i,x)::r=>do
  let f<-fs[i]?
  some ((f.offset,<-eM P f.type,<-bm x)::(<-mz P fs r))
def kI(sz:Nat):List (Nat×Operand)->Option (List (Nat×Nat×X))
 | []=>some []
 |(i,x)::r=>do some ((i*sz,sz,<-bm x)::(<-kI sz r))
def kJ:List (Nat×Operand)->Option (List (Nat×X))
 | []=>some []
 |(i,x)::r=>do some ((i,<-bm x)::(<-kJ r))
def BQ(g:TypeId->Option (List Kd)):List Field->Nat->Option (List Kd)
 | [],_=>some []
 |f::r,off=>if f.name≠ "_" /\f.offset=off then
   match g f.type with
   |some ks=>match BQ g r (off+ks.length)with
    |some ls=>some (ks++ls)
    |none=>none
   |none=>none
  else none
def flatK(P:Program):Nat->TypeId->Option (List Kd)
 |0,_=>none
 |d+1,t=>match P.underlying t with
  |some .bool=>if eM P t=some 1 then some [.b]else none
  |some (.int _)=>if eM P t=some 1 then some [.i]else none
  |some .string=>if eM P t=some 1 then some [.s]else none
  |some (.struct fs)=>if P.stoodInHeld t=false then
    match BQ (flatK P d) fs.toList 0 with
    |some ks=>if eM P t=some ks.length then some ks else none
    |none=>none
   else none
  |_=>none
def xY(P:Program)(t:TypeId):Option Ky:=
 match P.underlying t with
 |some (.int k)=>some (.i k)
 |some .string=>some .s
 |some .bool=>some .b
 |_=>none
def BR(P:Program)(t:TypeId):Option RV:=do
 match (<-(<-P.info? t).zero)with
 | .agg cs=>do some (.agg (<-my cs.toList))
 |v=>do some (.one (<-vA v))
def vB(P:Program)(o:Oper):Option I:=
 match o.op with
 | .move x| .assign x=>do some (.aK (<-bm x))
 | .pick c a b=>do some (.pick (<-bm c) (<-bm a) (<-bm b))
 | .alloc t=>do some (.alloc (<-dW P t))
 | .box _ x=>do some (.box (<-bm x))
 | .build t ps=>do
  let z<-dW P t
  match P.underlying t with
  |some (.struct fs)=>if(fs.toList.mapM (λf=>(P.info? f.type).map λi=>(f.offset,i.size))).isSome then some (.build z (<-mz P fs ps.toList))else none
  |some (.array _ e)=>some (.build z (<-kI (<-eM P e) ps.toList))
  |_=>none
 | .buildSlice t n ps=>do
  match P.underlying t with
  |some (.slice e)=>
   let z<-dW P e
   if(<-eM P e)=z.length/\0<z.length/\n*z.length<=2^24 then some (.nC z.length z n (<-kJ ps.toList))else none
  |_=>none
 | .load t a=>do some (.load (<-ek P t) (<-eM P t) (<-bm a))
 | .store t a x=>do
  let n<-eM P t
  if n=0 then none else some (.store n (<-bm a) (<-bm x))
 | .fieldAddr t a k=>do
  match P.underlying t with
  |some (.struct fs)=>
   let f<-fs[k]?
   if(<-eM P f.type)=0 then none else some (.cj f.offset (<-bm a))
  |_=>none
 | .field t a k=>do
  match P.underlying t with
  |some (.struct fs)=>
   let f<-fs[k]?
   some (.UK (<-ek P f.type) f.offset (<-eM P f.type) (<-bm a))
  |_=>none
 | .indexAddr t a i=>do
  match P.underlying t with
  |some (.slice e)=>some (.cw (<-eM P e) (<-bm a) (<-bm i))
  |some (.array n e)=>some (.BN n (<-eM P e) (<-bm a) (<-bm i))
  |_=>none
 | .index t a i=>do
  match P.underlying t with
  |some .string=>some (.BO (<-bm a) (<-bm i))
  |some (.array n e)=>some (.KA (<-ek P e) n (<-eM P e) (<-bm a) (<-bm i))
  |_=>none
 | .binOp op t x y _=>do
  match P.underlying t with
  |some (.int _)|some .string=>some (.aJ op (<-bm x) (<-bm y))
  |some (.slice _)=>match y,op with
   | .const (.slice none 0 0),.eql=>some (.xW false (<-bm x))
   | .const (.slice none 0 0),.neq=>some (.xW true (<-bm x))
   |_,_=>none
  |some .bool=>match op with
   | .eql=>some (.beq false (<-bm x) (<-bm y))
   | .neq=>some (.beq true (<-bm x) (<-bm y))
   |_=>none
  |some (.array n e)=>match P.eqGuardType P.depth t,P.underlying e,eM P e,op with
   |false,some (.int _),some 1,.eql=>some (.Kx false (gw n .i) (<-bm x) (<-bm y))
   |false,some (.int _),some 1,.neq=>some (.Kx true (gw n .i) (<-bm x) (<-bm y))
   |_,_,_,_=>none
  |some (.struct _)=>match P.eqGuardType P.depth t,flatK P 5 t,op with
   |false,some ks,.eql=>some (.Kx false ks (<-bm x) (<-bm y))
   |false,some ks,.neq=>some (.Kx true ks (<-bm x) (<-bm y))
   |_,_,_=>none
  |_=>none
 | .unOp op _ x=>do some (.un op (<-bm x))
 | .convert s d x=>do
  match P.underlying s,P.underlying d with
  |some (.int _),some (.int k)=>some (.conv k (<-bm x))
  |some .string,some .string=>some (.UL (<-bm x))
  |some (.slice e),some .string=>match P.underlying e with
   |some (.int .u8)=>some (.Ub (<-bm x))
   |_=>none
  |some .string,some (.slice e)=>match P.underlying e with
   |some (.int .u8)=>some (.UM (<-bm x))
   |_=>none
  |some (.slice _),some (.slice e)=>match s==d,P.underlying e with
   |true,some (.int .u8)=>some (.XH (<-bm x))
   |_,_=>none
  |_,_=>none
 | .makeMap t r=>match r,P.underlying t with
  |none,_=>some .ua
  |some (.const (.int _ _)),some (.map _ _)=>some .ua
  |_,_=>none
 | .makeSlice t l c=>do
  match P.underlying t with
  |some (.slice e)=>
   let i<-P.info? e;let z<-dW P e
   if i.size=z.length/\0<z.length/\0<i.bytes then some (.o4 i.size i.bytes z (<-bm l) (<-bm c))else none
  |_=>none
 | .lookup t x k b=>do
  match P.underlying t with
  |some (.map kt vt)=>some (.zQ (<-BR P vt) (<-xY P kt) (<-bm x) (<-bm k) b)
  |_=>none
 | .mapUpdate t x k v| .insert t x k v=>do
  match P.underlying t with
  |some (.map kt _)=>some (.vm (<-xY P kt) (<-bm x) (<-bm k) (<-bm v))
  |_=>none
 | .makeFunc (.func f) fst eh=>if fst.size=0 then do some (.fn f (<-uc eh.toList))else none
 | .extract x i=>do some (.ext (<-bm x) i)
 | .nilCheck x=>do some (.aP (<-bm x))
 | .range t x=>match P.underlying t with
  |some (.map _ _)=>do some (.UN (<-bm x))
  |_=>none
 | .next it false=>do some (.sH (<-bm it))
 | .entry it=>do some (.UO (<-bm it))
 | .slice t x lo hi mx=>do
  match P.underlying t with
  |some (.slice e)=>some (.nR (<-eM P e) (<-bm x) (<-ia lo) (<-ia hi) (<-ia mx))
  |some .string=>match mx with
   |none=>some (.HU (<-bm x) (<-ia lo) (<-ia hi))
   |some _=>none
  |_=>none
 | .call {callee:= .builtin .len,args,argTypes}=>do
  match args.toList,argTypes.toList with
  | [x],[t]=>match P.underlying t with
   |some .string=>some (.len 0 (<-bm x))
   |some (.slice _)=>some (.len 1 (<-bm x))
   |some (.map _ _)=>some (.len 2 (<-bm x))
   |_=>none
  |_,_=>none
 | .call {callee:= .builtin .append,args,argTypes}=>do
  match args.toList,argTypes.toList with
  | [x,y],[t,t2]=>match P.underlying t,P.underlying t2 with
   |some (.slice e),some (.slice e2)=>
    let i<-P.info? e;let z<-dW P e
    if i.size=z.length/\0<z.length/\0<i.bytes then some (.oZ i.size i.bytes (<-bm x) (<-bm y))else none
   |_,_=>none
  |_,_=>none
 | .call {callee:= .builtin .max,args,..}=>do
  match args.toList with
  | [x,y]=>some (.jO true [<-bm x,<-bm y])
  |_=>none
 | .call {callee:= .builtin .min,args,..}=>do
  match args.toList with
  | [x,y]=>some (.jO false [<-bm x,<-bm y])
  |_=>none
 | .call {callee:= .builtin .clear,args,argTypes}=>do
  match args.toList,argTypes.toList with
  | [x],[t]=>match P.underlying t with
   |some (.slice e)=>
    let i<-P.info? e;let z<-dW P e
    if i.size=z.length then some (.Uc i.size z (<-bm x))else none
   |_=>none
  |_,_=>none
 | .call {callee:= .builtin .copy,args,argTypes}=>do
  match args.toList,argTypes.toList with
  | [x,y],[t,_]=>match P.underlying t with
   |some (.slice e)=>
    let i<-P.info? e;let z<-dW P e
    if i.size=z.length then some (.copy i.size (<-bm x) (<-bm y))else none
   |_=>none
  |_,_=>none
 | .call {callee:= .builtin .delete,args,argTypes}=>do
  match args.toList,argTypes.toList with
  | [x,y],t::_=>match P.underlying t with
   |some (.map kt _)=>some (.Kz (<-xY P kt) (<-bm x) (<-bm y))
   |_=>none
  |_,_=>none
 | .call {callee:= .value f,args,..}=>do some (.call (<-bm f) (<-uc args.toList))
 |_=>none
def KG:I:= .jO true []
def sO(P:Program)(o:Oper):Option I:=
 match vB P o with
 |some i=>some i
 |none=>match o.op with
  | .defer _=>none
  |_=>some KG
theorem ON(P:Program){e:List CV}{m:Mem}{K:CV->Mem->Prop}:step P KG e m K=False:=rfl
theorem D5{P:Program}{o:Oper}{i:I}(h:sO P o=some i):vB P o=some i\/i=KG:=by
 unfold sO at h;split at h
 .rename_i j hj;exact .inl (by rw[hj];exact h)
 .split at h
  .cases h
  .cases h;exact .inr rfl
def KH(ops:Array Oper):Option (Nat×Bool)->Option (Option (Nat×Bool))
 |none=>some none
 |some (j,b)=>do some (some (<-(<-ops[j]?).dst,b))
def vC(P:Program)(ops:Array Oper)(o:Oper):Option LO:=do some ⟨o.dst,<-sO P o,<-KH ops o.guard⟩
def mA(P:Program)(ops:Array Oper):List Oper->Option (List LO)
 | []=>some []
 |o::r=>do some ((<-vC P ops o)::(<-mA P ops r))
def I.xs:I->List X
 | .aK x=>[x]
 | .pick c a b=>[c,a,b]
 | .alloc _=>[]
 | .box x=>[x]
 | .build _ ps=>ps.map λp=>p.2.2
 | .nC _ _ _ ps=>ps.map λp=>p.2
 | .load _ _ a=>[a]
 | .store _ a x=>[a,x]
 | .cj _ a=>[a]
 | .UK _ _ _ a=>[a]
 | .cw _ a i=>[a,i]
 | .BN _ _ a i=>[a,i]
 | .BO a i=>[a,i]
 | .aJ _ x y=>[x,y]
 | .Kx _ _ x y=>[x,y]
 | .beq _ x y=>[x,y]
 | .un _ x=>[x]
 | .conv _ x=>[x]
 | .UL x=>[x]
 | .UM x=>[x]
 | .Ub x=>[x]
 | .nR _ x lo hi mx=>x::(lo.toList++hi.toList++mx.toList)
 | .HU x lo hi=>x::(lo.toList++hi.toList)
 | .fn _ eh=>eh
 | .len _ x=>[x]
 | .oZ _ _ d s=>[d,s]
 | .call f args=>f::args
 | .ext x _=>[x]
 | .aP x=>[x]
 | .xW _ x=>[x]
 | .ua=>[]
 | .o4 _ _ _ n c=>[n,c]
 | .zQ _ _ m k _=>[m,k]
 | .vm _ m k v=>[m,k,v]
 | .jO _ xs=>xs
 | .Kz _ m k=>[m,k]
 | .copy _ d s=>[d,s]
 | .Uc _ _ x=>[x]
 | .KA _ _ _ x i=>[x,i]
 | .XH x=>[x]
 | .UN x=>[x]
 | .sH x=>[x]
 | .UO x=>[x]
def lL:List X->List Nat
 | []=>[]
 | .t n::r=>n::lL r
 | .c _::r=>lL r
def LO.looks(lo:LO):List Nat:=
 match lo.guard with
 |none=>lL lo.BB.xs
 |some (s,_)=>s::lL lo.BB.xs
def yu:I->Bool
 | .aK _| .pick .. | .build .. | .cj .. | .UK .. | .KA .. | .BN .. | .BO .. | .aJ .. | .Kx .. | .beq .. | .un .. | .conv .. | .UL .. | .fn .. | .ext .. | .aP _| .HU .. =>true
 |_=>false
def sP(i:I):Bool:=yu i||match i with| .load .. | .cw .. | .len .. | .nR .. =>true|_=>false
def zR(cZ:List Nat)(l:List Nat):Nat:=l.foldr (λj m=>Nat.lor m (Nat.lor (Nat.shiftLeft 1 j) ((cD cZ j).getD 0))) 0
def D6(gP:List (List Nat))(cZ:List Nat):List Nat:=gP.map (zR cZ)
def zS(gP:List (List Nat)):Nat->List Nat->List Nat
 |0,cZ=>cZ
 |k+1,cZ=>let a:=D6 gP cZ;match a==cZ with|true=>cZ|false=>zS gP k a
def bj(n:Nat)(gP:List (List Nat)):List Nat:=zS gP n []
def nf(ms:List Nat)(i j:Nat):Bool:=Nat.testBit ((cD ms i).getD 0) j
def c9(bS:List LO)(t j:Nat):Bool:=match cD bS j with|some lo=>(match lo.dst with|some d=>Nat.beq d t|none=>false)|none=>false
def n9(bS:List LO)(j:Nat):List Nat:=match cD bS j with|some lo=>lo.looks|none=>[]
def HW(bS:List LO)(j:Nat):Option Nat:=match cD bS j with|some lo=>lo.dst|none=>none
def D7(bS:List LO)(j:Nat):Bool:=match cD bS j with|some lo=>yu lo.BB|none=>false
def lM(bS:List LO)(j:Nat):Bool:=match cD bS j with|some lo=>sP lo.BB|none=>false
def nD.hd:nD->List Nat
 | .nil=>[]
 | .cons i _ _=>[i]
 | .vn a b=>a.hd++b.hd
def Gv(bS:List LO)(ms:List Nat)(n:Nat)(bf:List Nat)(i:Nat):Bool:=
 Nat.blt i n&& !(bf.contains i)&&
  ((n9 bS i).all λt=>bf.all λj=>!(c9 bS t j)||nf ms i j)&&
  (match HW bS i with|none=>true|some t=>bf.all λj=>!(c9 bS t j)&&(!((n9 bS j).contains t)||nf ms i j))
def R2(ms:List Nat)(n:Nat)(bf hd:List Nat):Bool:=(List.range n).all λi=>bf.contains i||(hd.contains i||hd.any λf=>nf ms i f)
def dS(bS:List LO)(ms:List Nat)(n:Nat):Bool->List Nat->nD->Bool
 |c,bf,.nil=>c&&(List.range n).all λi=>bf.contains i
 |c,bf,.cons i none r=>c&&(Gv bS ms n bf i&&(lM bS i&&dS bS ms n true (i::bf) r))
 |c,bf,.cons i (some l) r=>(!c||R2 ms n bf [i])&&(Gv bS ms n bf i&&((bf.all λj=>!(lM bS j)||(nf ms i j||(D7 bS j||l.contains j)))&&dS bS ms n true (i::bf) r))
 |c,bf,.vn x y=>(!c||R2 ms n bf (x.hd++y.hd))&&(dS bS ms n false bf x&&dS bS ms n false bf y)
def yv(gP:List (List Nat))(n:Nat):List Nat->List Nat->Bool
 |bf,[]=>(List.range n).all λi=>bf.contains i
 |bf,i::r=>Nat.blt i n&&((cD gP i).getD []).all (λj=>bf.contains j)&&yv gP n (i::bf) r
def UQ(gP:List (List Nat))(n:Nat):Nat->List Nat->List Nat
 |0,_=>[]
 |k+1,bf=>match (List.range n).find? λi=>!(bf.contains i)&&((cD gP i).getD []).all (λj=>bf.contains j)with
  |some i=>i::UQ gP n k (i::bf)
  |none=>[]
def qX(bS:List LO)(gP:List (List Nat))(sched:nD):Bool:=
 yv gP bS.length [] (UQ gP bS.length bS.length [])&&dS bS (bj bS.length gP) bS.length true [] sched
def KJ(bS:List LO)(ms:List Nat)(BS:List Nat)(done:List Nat)(i:Nat):Bool:=
 !(done.contains i)&&lM bS i&&BS.all λf=>done.contains f|| !(nf ms i f)
def QN:List Nat->nD->nD
 | [],r=>r
 |i::l,r=>.cons i none (QN l r)
def UR:List nD->nD
 | []=>.nil
 | [x]=>x
 |x::r=>.vn x (UR r)
def Gw(bS:List LO)(ms:List Nat)(all BS:List Nat):Nat->List Nat->nD
 |0,_=>.nil
 |k+1,done=>
  let XK:=all.filter (KJ bS ms BS done);let QO:=XK.reverse++done;let left:=BS.filter λf=>!(done.contains f)
  QN XK (UR ((left.filter λf=>left.all λg=>Nat.beq g f|| !(nf ms f g)).map λf=>
   .cons f (some (QO.filter λj=>lM bS j&& !(nf ms f j||D7 bS j))) (Gw bS ms all BS k (f::QO))))
def Gx(bS:List LO)(gP:List (List Nat)):nD:=
 let ms:=bj bS.length gP;let all:=List.range bS.length;let BS:=all.filter λi=>!(lM bS i)
 Gw bS ms all BS (BS.length+1) []
def kP(md:Region.Mode)(ops:Array Oper):List (List Nat):=ops.toList.map λo=>(o.after.toList.filter (Region.binds md)).map (·.on)
def u9(P:Program)(ops:Array Oper):List Region.Mode:=if(P.follows .mixedOrders|| !(Region.departs ops))=true then [.any]else [.text,.gc]
def vD(P:Program)(bS:List LO)(ops:Array Oper):Option (List nD):=
 let ms:=u9 P ops;let s:=Gx bS (kP .any ops)
 if(ms.all λmd=>qX bS (kP md ops) s)=true then some [s]
 else
  let ss:=ms.map λmd=>Gx bS (kP md ops)
  if(ms.all λmd=>ss.any λs=>qX bS (kP md ops) s)=true then some ss else none
def dR(P:Program):Code->Option LC
 | .skip=>some .skip
 | .region _ ops true=>do
  let bS<-mA P ops ops.toList
  some (.bR bS (<-vD P bS ops))
 | .region _ ops false=>do some (.ai (<-mA P ops ops.toList))
 | .seq a b=>do some (.seq (<-dR P a) (<-dR P b))
 | .cond x a b=>do some (.cond (<-bm x) (<-dR P a) (<-dR P b))
 | .block id b=>do some (.block id (<-dR P b))
 | .loop b=>do some (.loop (<-dR P b))
 | .exit id=>some (.exit id)
 | .ret=>some .ret
 | .rangeFunc f ps a c=>do
  match ps.toList with
  | [p]=>
   let la<-dR P a;let lc<-dR P c
   if(la.qU&&lc.qU)=true then some (.xX (<-bm f) p la lc)else none
  |_=>none
 |_=>none
def oa(P:Program):List ResultVar->Option (List Rv)
 | []=>some []
 | .tmp t::r=>do some (.tmp t::(<-oa P r))
 | .cell a t::r=>do some (.cell (<-ek P t) (<-eM P t) a::(<-oa P r))
def bu(P:Program)(fn:Func):Option LF:=do
 some ⟨fn.ntmps,<-oa P fn.results.toList,<-dR P (<-fn.body)⟩
inductive Ex where
 |normal
 |exit (id:Nat)
 |ret
def put(d:Option Nat)(v:CV)(e:List CV)(K:List CV->Prop):Prop:=
 match d with
 |none=>K e
 |some d=>fV v λv=>iW (aW e d v) K
def Gy(P:Program)(o:LO)(ih:(List CV->Mem->Prop)->List CV->Mem->Prop)(K:List CV->Mem->Prop)(e:List CV)(m:Mem):Prop:=
  match o.guard with
  |none=>step P o.BB e m λv m'=>iW m' λm'=>put o.dst v e λe'=>ih K e' m'
  |some (s,jP)=>
   match kh e s with
   | .undef=>put o.dst .undef e λe'=>ih K e' m
   | .rv (.one (.aa (.val (.bool t))))=>bB t
    (iW (aW e s (aE true)) λe=>match jP with
     |true=>step P o.BB e m λv m'=>iW m' λm'=>put o.dst v e λe'=>ih K e' m'
     |false=>put o.dst .undef e λe'=>ih K e' m)
    (iW (aW e s (aE false)) λe=>match jP with
     |false=>step P o.BB e m λv m'=>iW m' λm'=>put o.dst v e λe'=>ih K e' m'
     |true=>put o.dst .undef e λe'=>ih K e' m)
   |_=>False
def HX(P:Program)(l:List LO):(List CV->Mem->Prop)->List CV->Mem->Prop:=
 @List.rec LO (λ_=>(List CV->Mem->Prop)->List CV->Mem->Prop) (λK e m=>K e m) (λo _ ih K e m=>Gy P o ih K e m) l
theorem yw{P:Program}{o:LO}{r:List LO}{K:List CV->Mem->Prop}{e:List CV}{m:Mem}:HX P (o::r) K e m=Gy P o (HX P r) K e m:=rfl
def nF(P:Program)(lo:LO)(e:List CV)(m:Mem)(K:List CV->CV->Mem->Prop):Prop:=
 match lo.guard with
 |none=>step P lo.BB e m λv m'=>iW m' λm'=>K e v m'
 |some (s,jP)=>match kh e s with
  | .undef=>K e .undef m
  | .rv (.one (.aa (.val (.bool t))))=>bB t
   (iW (aW e s (aE true)) λe=>match jP with
    |true=>step P lo.BB e m λv m'=>iW m' λm'=>K e v m'
    |false=>K e .undef m)
   (iW (aW e s (aE false)) λe=>match jP with
    |false=>step P lo.BB e m λv m'=>iW m' λm'=>K e v m'
    |true=>K e .undef m)
  |_=>False
def vE(j:Nat):List (Nat×LO×List CV×CV)->Option (LO×List CV×CV)
 | []=>none
 |(i,x)::r=>match Nat.beq i j with|true=>some x|false=>vE j r
def US(P:Program)(m:Mem)(dX:List (Nat×LO×List CV×CV))(l:List Nat):Prop:=
 @List.rec Nat (λ_=>Prop) True (λj _ ih=>(ok (vE j dX) λx=>nF P x.1 x.2.1 m λ_ v _=>v=x.2.2)/\ih) l
theorem KK{P:Program}{m:Mem}{dX:List (Nat×LO×List CV×CV)}{j:Nat}{r:List Nat}:US P m dX (j::r)=((ok (vE j dX) λx=>nF P x.1 x.2.1 m λ_ v _=>v=x.2.2)/\US P m dX r):=rfl
def Gz(P:Program)(bS:List LO)(i:Nat)(KB:Option (List Nat))(ih:List (Nat×LO×List CV×CV)->(List CV->Mem->Prop)->List CV->Mem->Prop)(dX:List (Nat×LO×List CV×CV))(K:List CV->Mem->Prop)(e:List CV)(m:Mem):Prop:=
 ok (cD bS i) λlo=>nF P lo e m λe1 v m'=>put lo.dst v e1 λe'=>
  match KB with
  |none=>ih ((i,lo,e,v)::dX) K e' m'
  |some l=>US P m' dX l/\ih dX K e' m'
def uL(P:Program)(bS:List LO)(Ys:nD):List (Nat×LO×List CV×CV)->(List CV->Mem->Prop)->List CV->Mem->Prop:=
 @nD.rec (λ_=>List (Nat×LO×List CV×CV)->(List CV->Mem->Prop)->List CV->Mem->Prop) (λ_ K e m=>K e m)
  (λi KB _ ih dX K e m=>Gz P bS i KB ih dX K e m) (λ_ _ R3 R5 dX K e m=>R3 dX K e m/\R5 dX K e m) Ys
theorem yx{P:Program}{bS:List LO}{i:Nat}{KB:Option (List Nat)}{r:nD}{dX:List (Nat×LO×List CV×CV)}{K:List CV->Mem->Prop}{e:List CV}{m:Mem}:
  uL P bS (.cons i KB r) dX K e m=Gz P bS i KB (uL P bS r) dX K e m:=rfl
theorem KL{P:Program}{bS:List LO}{a b:nD}{dX:List (Nat×LO×List CV×CV)}{K:List CV->Mem->Prop}{e:List CV}{m:Mem}:
  uL P bS (.vn a b) dX K e m=(uL P bS a dX K e m/\uL P bS b dX K e m):=rfl
def R6(x:X)(v:CV)(e:List CV):List CV:=
 match x with
 | .t n=>aW e n v
 | .c _=>e
def km:Nat->List (Nat×CV)->List CV
 |n,as=>go n as (gw n .ap)
 where go:Nat->List (Nat×CV)->List CV->List CV
 |_,[],e=>e
 |n,(s,v)::r,e=>aW (go n r e) s v
inductive mB:Mem->Mem->Prop
 |nil (m:Mem):mB m []
 |cons {b b':Bk} {m m':Mem} (h:b'=b\/b'= .aS) (hm:mB m m'):mB (b::m) (b'::m')
def CC.di(n:Nat):CC->Prop
 | .ptr id _=>id<n
 | .nb id _ _ _=>id<n
 | .row id _ _ _=>id<n
 | .map id=>id<n
 | .fn _ eh=>∀id,id∈eh->id<n
 |_=>True
def RV.di(n:Nat):RV->Prop
 | .one c=>c.di n
 | .agg cs=>∀c,c∈cs->c.di n
def CV.di(n:Nat):CV->Prop
 | .rv r=>r.di n
 | .bz rs=>∀r,r∈rs->r.di n
 |_=>True
def Bk.di(n:Nat):Bk->Prop
 | .aS=>True
 | .var cs=>∀c,c∈cs->c.di n
 | .row _ elems=>∀cs,cs∈elems->∀c,c∈cs->c.di n
 | .mp es=>∀e,e∈es->e.val.di n
 | .it _ _=>True
 | .mo _ es _=>∀e,e∈es->(e.cc 0).di n
 | .iw mid _ _=>mid<n
structure KM(n0:Nat)(s s':St):Prop where
 n0:n0<=s'.mem.length
 len:s'.aX.length=s.aX.length
 aX:∀(i:Nat)v,s'.aX[i]? =some v->v= .ap\/(s.aX[i]? =some v/\(s'.mem.length=s.mem.length\/v.di s'.mem.length))
 mem:mB s.mem s'.mem
 jW:s'.mem.length=s.mem.length\/∀b,b∈s'.mem->b.di s'.mem.length
structure R7(n0:Nat)(U:bF)(m:Mem)(U':bF)(m':Mem):Prop where
 aH:∀id,id<n0->U'.aH (.al id)=U.aH (.al id)
 S:∀b,U.S b->U'.S b
 S':∀b,U'.S b->U.S b\/∃k,Live U m k/\(U.aH k).b=b
 aQ:∀k,Live U' m' k->∃k0,Live U m k0/\(U.aH k0).b=(U'.aH k).b
structure View(n0:Nat)(s s':St):Prop where
 hn:n0<=s'.mem.length
 len:s'.aX.length=s.aX.length
 go:∀(U:bF)(w:World),au U s.mem w->∃U',au U' s'.mem w/\R7 n0 U s.mem U' s'.mem/\∀(i:Nat)c',s'.aX[i]? =some c'->∃c,s.aX[i]? =some c/\∀v,bZ U w c v->bZ U' w c' v
def R9(f:(Ex->St->Prop)->St->Prop)(K:Ex->St->Prop)(ex:Ex)(s:St):Prop:=
 match ex with
 | .normal=>f K s
 | .exit id=>K (.exit id) s
 | .ret=>K .ret s
def D8(id:Nat)(K:Ex->St->Prop)(ex:Ex)(s:St):Prop:=
 match ex with
 | .normal=>K .normal s
 | .exit jX=>bB (Nat.beq jX id) (K .normal s) (K (.exit jX) s)
 | .ret=>K .ret s
def GA(n0:Nat){α:Type}(J:α->Prop)(S:α->St)(μ:α->Nat)(n:Nat)(K:Ex->St->Prop)(ex:Ex)(s:St):Prop:=
 match ex with
 | .normal=>∃a,J a/\μ a<n/\View n0 s (S a)
 | .exit id=>K (.exit id) s
 | .ret=>K .ret s
def HY(K:Ex->St->Prop)(e:List CV)(m:Mem):Prop:=K .normal ⟨e,m⟩
def pF:Mem->List Nat->Mem
 |m,[]=>m
 |m,id::r=>pF (aW m id .aS) r
def zT(m:Mem):List Nat->List Value->Prop
 | [],[]=>True
 |id::r,v::vs=>(cD m id=some (.var [.aa (.val v)])/\cE v=true)/\zT m r vs
 |_,_=>False
def qY(as:List (Nat×Nat)):List Value:=as.map λa=>Value.pointer (some ⟨a.1,a.2,none⟩)
def QP(P:Program)(l:Nat)(args:Array Value)(W:World)(R:Ending->World->Prop):Prop:=
 ∃fn tmps assign body,(Instr.yield l args).run P W= .ok (.round l fn tmps assign body) W/\RoundIn Fence.wide 0 P l fn tmps assign body W R
def UT(P:Program)(gf:Nat)(cs:List Value)(xs:List ByteArray):Prop:=
 (∃fn,P.funcs[gf]? =some fn/\fn.body.isSome=true/\(fn.name== "runtime.NumGoroutine")=false)/\
 ∀(l:Nat)(as:List (Nat×Nat))(W:World)(J:Nat->World->Prop)(Jx:World->Prop),as.length=cs.length->(as.map (·.1)).Nodup->
  (∀(i:Nat)a v,as[i]? =some a->cs[i]? =some v->W.cell? ⟨a.1,a.2,none⟩=some v/\W.frozen? ⟨a.1,a.2,none⟩=false)->
  (∀k W W',J k W->W.heap.size<=W'.heap.size->(∀b,b<W.heap.size->(∀a,a∈as->b≠a.1)->W'.heap[b]? =W.heap[b]?)->W'.os=W.os->W'.tape=W.tape->W'.output=W.output->J k W')->
  (∀W W',Jx W->W.heap.size<=W'.heap.size->(∀b,b<W.heap.size->(∀a,a∈as->b≠a.1)->W'.heap[b]? =W.heap[b]?)->W'.os=W.os->W'.tape=W.tape->W'.output=W.output->Jx W')->
  (∀k y W,xs[k]? =some y->J k W->QP P l #[.string y] W λe W'=>
   (e= .returned (.bool true)/\J (k+1) W'/\W.heap.size<=W'.heap.size/\∀a,a∈as->W'.heap[a.1]? =W.heap[a.1]?)\/(e= .returned (.bool false)/\Jx W'))->
  J 0 W->
  CallsIn Fence.wide 0 P gf (#[.func (.yield l) #[] #[]]++(qY as).toArray) W λe W'=>(∃v,e= .returned v)/\(J xs.length W'\/Jx W')
def Yt(n0:Nat){α:Type}(J:Nat->α->Prop)(S:α->St)(k:Nat)(aX:List CV)(K:Ex->St->Prop)(ex:Ex)(s:St):Prop:=
 match ex with
 | .normal=>∃a,J (k+1) a/\View n0 ⟨aX,s.mem⟩ (S a)
 | .exit id=>K (.exit id) ⟨aX,s.mem⟩
 | .ret=>K .ret ⟨aX,s.mem⟩
def OO(P:Program)(bS:List LO)(K:Ex->St->Prop)(s:St):List nD->Prop
 | []=>True
 | [x]=>uL P bS x [] (HY K) s.aX s.mem
 |x::y::r=>uL P bS x [] (HY K) s.aX s.mem/\OO P bS K s (y::r)
def aw(P:Program)(n0:Nat):LC->(Ex->St->Prop)->St->Prop
 | .skip,K,s=>K .normal s
 | .ai ops,K,s=>HX P ops (HY K) s.aX s.mem
 | .bR bS pY,K,s=>OO P bS K s pY
 | .seq a b,K,s=>aw P n0 a (R9 (aw P n0 b) K) s
 | .cond x a b,K,s=>match x.ev s.aX with
  | .rv (.one (.aa (.val (.bool t))))=>bB t
   (iW (R6 x (aE true) s.aX) λe=>aw P n0 a K ⟨e,s.mem⟩)
   (iW (R6 x (aE false) s.aX) λe=>aw P n0 b K ⟨e,s.mem⟩)
  |_=>False
 | .block id b,K,s=>aw P n0 b (D8 id K) s
 | .loop b,K,s=>∃(α:Type)(J:α->Prop)(S:α->St)(μ:α->Nat),(∃a,J a/\View n0 s (S a))/\∀a,J a->aw P n0 b (GA n0 J S μ (μ a) K) (S a)
 | .exit id,K,s=>K (.exit id) s
 | .ret,K,s=>K .ret s
 | .cS a,K,s=>∃s',View n0 s s'/\aw P n0 a K s'
 | .xX x p la lb,K,s=>∃(gf:Nat)(jW:List Nat)(cs:List Value)(xs:List ByteArray)(α:Type)(J:Nat->α->Prop)(S:α->St),
   x.ev s.aX= .rv (.one (.fn gf jW))/\zT s.mem jW cs/\(jW.Nodup/\jW≠[])/\UT P gf cs xs/\(∃a,J 0 a/\View n0 ⟨s.aX,pF s.mem jW⟩ (S a))/\
   (∀k y a,xs[k]? =some y->J k a->nc (S a).mem λn1=>aw P n1 la (λex s2=>match ex with
    | .normal=>nc s2.mem λn2=>aw P n2 lb (Yt n0 J S k (S a).aX K) s2
    |_=>False) ⟨aW (S a).aX p (eL y),(S a).mem⟩)/\
   ∀a,J xs.length a->K .normal (S a)
def BT(P:Program)(s:St):List Rv->(List RV->Prop)->Prop
 | [],K=>K []
 | .tmp t::r,K=>ok (D2 (kh s.aX t)) λv=>BT P s r λvs=>K (v::vs)
 | .cell agg n t::r,K=>vr s.aX s.mem agg n (kh s.aX t) λv=>ok (D2 v) λv=>BT P s r λvs=>K (v::vs)
def Sa:List RV->CV
 | [r]=>.rv r
 |rs=>.bz rs
def oc(P:Program)(lK:List Rv)(K:CV->Mem->Prop)(ex:Ex)(s:St):Prop:=
 match ex with
 | .exit _=>False
 |_=>BT P s lK λvs=>K (Sa vs) s.mem
def body(P:Program)(lf:LF)(args:List CV)(m:Mem)(K:CV->Mem->Prop):Prop:=
 iW (gh args (gw (lf.n-args.length) .undef)) λe=>nc m λn0=>aw P n0 lf.code (oc P lf.lK K) ⟨e,m⟩
abbrev qm(d s:Nat):LO:=⟨some d,.aK (.t s),none⟩
abbrev qu(d:Nat)(i:I):LO:=⟨some d,i,none⟩
abbrev qw(i:I):LO:=⟨none,i,none⟩
abbrev qg(d:Nat)(i:I)(s:Nat)(b:Bool):LO:=⟨some d,i,some (s,b)⟩
abbrev qf(d k s:Nat):LO:=⟨some d,.cj k (.t s),none⟩
abbrev ql(d s:Nat):LO:=⟨some d,.load false 1 (.t s),none⟩
abbrev qL(d n s:Nat):LO:=⟨some d,.load true n (.t s),none⟩
abbrev qi(n:Int):X:= .c (.rv (.one (.aa (.val (.int .i64 n)))))
abbrev qb(b:Bool):X:= .c (.rv (.one (.aa (.val (.bool b)))))
abbrev qe:X:= .c (.rv (.one .aO))
abbrev qd(n:Int):CC:= .aa (.val (.int .i64 n))
abbrev qc(f:Nat)(a:List X):I:= .call (.c (.rv (.one (.fn f [])))) a
instance(n:Nat):OfNat X n:=⟨.t n⟩
theorem aT{α:Type}:∀(l:List α)(i:Nat),cD l i=l[i]?
 | [],_=>by simp[cD]
 |_::_,0=>rfl
 |_::r,k+1=>by simpa[cD]using aT r k
theorem a8{α:Type}:∀(l:List α)(i:Nat)(x:α),aW l i x=l.set i x
 | [],_,_=>rfl
 |_::_,0,_=>rfl
 |a::r,k+1,x=>by simp[aW,a8 r k x]
theorem bX{α:Type}:∀(a b:List α),gh a b=a++b
 | [],_=>rfl
 |x::r,b=>by simp[gh,bX r b]
theorem fH{α:Type}:∀(n:Nat)(x:α),gw n x=List.replicate n x
 |0,_=>rfl
 |n+1,x=>by simp[gw,fH n x,List.replicate_succ]
theorem eY{α:Type}{β:Sort _}:∀(l:List α)(k:List α->β),iW l k=k l
 | [],_=>rfl
 |x::r,k=>eY r λr'=>k (x::r')
theorem UU{β:Sort _}(v:CV)(k:CV->β):fV v k=k v:=by
 cases v with
 |rv r=>
  cases r with
  |one c=>rfl
  |agg cs=>exact eY cs _
 |_=>rfl
theorem lN:∀(e:List CV)(i:Nat),kh e i=(e[i]?).getD .ap
 | [],_=>by simp[kh]
 |_::_,0=>rfl
 |_::r,k+1=>by simpa[kh]using lN r k
theorem aZ{α:Type}{o:Option α}{K:α->Prop}:ok o K↔∃x,o=some x/\K x:=by
 cases o<;>simp[ok]
theorem cn{t:Bool}{A B:Prop}:bB t A B↔(t=true/\A)\/(t=false/\B):=by
 cases t<;>simp[bB]
theorem BU{β:Sort _}(m0:Mem):∀(m:Mem)(c n:Nat)(k:Nat->β),m0.length=c+m.length->vq m0 m (List.range' c n) k=k m0.length
 | [],c,0,k,_=>by simp[vq]
 | [],c,n+1,k,h=>by simp[vq,acS,h]
 |_::r,c,0,k,h=>by simp[vq]
 |_::r,c,n+1,k,h=>by
  rw[acS,vq];exact BU m0 r (c+1) n k (by simp at h;omega)
theorem gx{β:Sort _}(m:Mem)(k:Nat->β):nc m k=k m.length:=by have:=BU m m 0 64 k aC;exact this
theorem kQ:∀{cs:List CC}{j n:Nat}{l:List CC},iX cs j n=some l->l.length=n/\∀i,i<n->cs[j+i]? =l[i]?
 |cs,0,0,l,h=>by cases cs<;>simp[iX]at h<;>subst h<;>simp
 | [],0,n+1,l,h=>by simp[iX]at h
 | [],j+1,n,l,h=>by cases n<;>simp[iX]at h
 |c::cs,0,n+1,l,h=>by
  simp only[iX]at h;cases hr:iX cs 0 n with
  |none=>simp[hr]at h
  |some l'=>
   simp[hr]at h;subst h;obtain⟨h1,h2⟩:=kQ hr;refine⟨by simp[h1],λi hi=>?_⟩
   cases i with
   |zero=>simp
   |succ i=>have:=h2 i (by omega);simpa using this
 |c::cs,j+1,n,l,h=>by
  have h':iX cs j n=some l:=by cases n<;>simpa[iX]using h
  obtain⟨h1,h2⟩:=kQ h';refine⟨h1,λi hi=>?_⟩
  have:=h2 i hi;rw[show j+1+i=(j+i)+1 by omega]
  simpa using this
theorem jB:∀{cs:List CC}{j:Nat}{xs l:List CC},gG cs j xs=some l->
  l.length=cs.length/\j+xs.length<=cs.length/\∀i,l[i]? =if j<=i/\i<j+xs.length then xs[i-j]? else cs[i]?
 |cs,0,[],l,h=>by
  cases cs<;>simp[gG]at h<;>subst h
  .simp
  .refine⟨rfl,aC,λi=>?_⟩
   rw[if_neg aC]
 | [],0,x::xs,l,h=>by simp[gG]at h
 | [],j+1,xs,l,h=>by cases xs<;>simp[gG]at h
 |c::cs,0,x::xs,l,h=>by
  simp only[gG]at h;cases hr:gG cs 0 xs with
  |none=>simp[hr]at h
  |some l'=>
   simp[hr]at h;subst h;obtain⟨h1,h2,h3⟩:=jB hr;refine⟨by simp[h1],by simp at h2|-;omega,λi=>?_⟩
   cases i with
   |zero=>simp
   |succ i=>
    have:=h3 i;simp only[aaj,true_and,abb,acb,aah,abA]at this|-;rw[this];simp
 |c::cs,j+1,xs,l,h=>by
  have h':(gG cs j xs).map (c:: ·)=some l:=by
   rw[<-h];cases hr:gG cs j xs<;>cases xs<;>simp[gG,hr]
  cases hr:gG cs j xs with
  |none=>simp[hr]at h'
  |some l'=>
   simp[hr]at h';subst h';obtain⟨h1,h2,h3⟩:=jB hr;refine⟨by simp[h1],by simp;omega,λi=>?_⟩
   cases i with
   |zero=>rw[if_neg om];simp
   |succ i=>
    have:=h3 i;simp only[abA,this];by_cases hc:j<=i/\i<j+xs.length
    .rw[if_pos hc,if_pos om,show i+1-(j+1)=i-j by omega]
    .rw[if_neg hc,if_neg om]
theorem vF:∀{ds:List Dt}{n:Nat}{l:List CC},vo ds n=some l->l.length=n/\∀i,i<n->∃d,ds[i]? =some d/\l[i]? =some (.aa d)
 |ds,0,l,h=>by cases ds<;>simp[vo]at h<;>subst h<;>simp
 | [],n+1,l,h=>by simp[vo]at h
 |d::ds,n+1,l,h=>by
  simp only[vo]at h;cases hr:vo ds n with
  |none=>simp[hr]at h
  |some l'=>
   simp[hr]at h;subst h;obtain⟨h1,h2⟩:=vF hr;refine⟨by simp[h1],λi hi=>?_⟩
   cases i with
   |zero=>exact⟨d,aC,aC⟩
   |succ i=>simpa using h2 i om
theorem vG:∀{l:List CC},iY l=true->∀c,c∈l->∀esz e,c≠.dV esz e
 | [],_,c,hc,_,_=>by simp at hc
 |x::r,h,c,hc,esz,e=>by
  cases x with
  |dV a b=>simp[iY]at h
  |_=>
   rcases aa1.1 hc with rfl|hc
   .simp
   .exact vG (l:=r) (by simpa[iY]using h) c hc esz e
def Bk.zU:Bk->Prop
 | .row _ elems=>∀(i:Nat)cs(j:Nat)c,elems[i]? =some cs->cs[j]? =some c->∀esz e,c≠.dV esz e
 | .mo _ es _=>∀e,e∈es->∀l,e.val≠.dV l
 |_=>True
theorem bh.zV{U:bF}{w:World}{c:CC}{v:Value}(h:bh U w .none c v)(esz:Nat)(e:List (List Dt)):c≠.dV esz e:=by rintro rfl;obtain⟨_,_,_,e,_⟩:=h;cases e
theorem bh.vH{U:bF}{w:World}{c:CC}{v:Value}(h:bh U w .none c v)(pos:Option (Nat×Nat×Nat)):bh U w pos c v:=by
 cases c<;>first|exact h|(obtain⟨_,_,_,e,_⟩:=h;cases e)
theorem bh.UW{U:bF}{w:World}{pos:Option (Nat×Nat×Nat)}{c:CC}{v:Value}(hn:∀esz e,c≠.dV esz e)(h:bh U w pos c v):bh U w .none c v:=by
 cases c<;>first|exact h|exact absurd rfl (hn _ _)
def bF.push(U:bF)(l:vl):bF:=
 {n:=U.n+1,aH:=λk=>if k.id=U.n then l else U.aH k,S:=U.S}
theorem bF.eD(U:bF)(l:vl){k:fY}(h:k.id<U.n):(U.push l).aH k=U.aH k:=by simp only[bF.push];rw[if_neg om]
theorem bF.fN(U:bF)(l:vl):(U.push l).aH (.al U.n)=l:=by simp[bF.push,fY.id]
structure eu(w w':World):Prop where
 heap:∀b,b<w.heap.size->w'.heap[b]? =w.heap[b]?
 size:w.heap.size<=w'.heap.size
 os:w'.os=w.os
 tape:w'.tape=w.tape
 output:w'.output=w.output
theorem eu.alloc(w:World)(o:Obj):eu w (w.alloc o):=⟨λb h=>heap_alloc_old w o b h,aC,rfl,rfl,rfl⟩
theorem eu.drew(w:World):eu w w.drew:=⟨λ_ _=>rfl,Ts _,rfl,rfl,rfl⟩
theorem eu.trans{a b c:World}(h:eu a b)(k:eu b c):eu a c:=
 ⟨λx hx=>(k.heap x (aa0 hx h.size)).trans (h.heap x hx),abH h.size k.size,k.os.trans h.os,k.tape.trans h.tape,k.output.trans h.output⟩
theorem cI.cm{U U':bF}{w w':World}{id:Nat}{bk:Bk}(g:iz U w U' w')(hid:id<U.n)(hb:bk≠.aS->((∃esz elems,bk= .row esz elems)->0<(U.aH (.al id)).cap)->w'.heap[(U.aH (.al id)).b]? =w.heap[(U.aH (.al id)).b]?)(h:cI U w id bk):cI U' w' id bk:=by
 have hl:U'.aH (.al id)=U.aH (.al id):=g.aH (.al id) hid;cases bk with
 |aS=>trivial
 |var cs=>
  obtain⟨cur,hc,hd⟩:=h;refine⟨cur,by rw[hl];exact hc.dv (hb aC (by rintro⟨_,_,e⟩;cases e)),λj c hj=>?_⟩
  obtain⟨u,hu,ct⟩:=hd j c hj;exact⟨u,by rw[hl];exact hu,ct.cm g aC⟩
 |row esz elems=>
  obtain⟨h2,h3,h4,h5,bT⟩:=h;refine⟨by rw[hl];exact h2,by rw[hl];exact h3,by rw[hl];exact h4,h5,λcH=>?_⟩
  rw[hl]at cH;obtain⟨cur,hc,h1,h6⟩:=bT cH;refine⟨cur,by rw[hl];exact hc.dv (hb aC λ_=>cH),by rw[hl];exact h1,λi cs j c hi hj=>?_⟩
  obtain⟨u,hu,ct⟩:=h6 i cs j c hi hj;exact⟨u,by rw[hl];exact hu,ct.cm g (by rintro jX i' j' e;cases e;exact hid)⟩
 |mp es=>
  obtain⟨bx,clock,hc,h1,h2⟩:=h;refine⟨bx,clock,⟨by rw[hl,hb aC (by rintro⟨_,_,e⟩;cases e)];exact hc.1,hc.2⟩,h1,λi e hi=>?_⟩
  obtain⟨e',mr,hk,hd⟩:=h2 i e hi;exact⟨e',mr,hk,hd.cm g⟩
 |it cur left=>
  obtain⟨mb,seen,ck,bx,h2,h3,h4,h5,h6⟩:=h;exact⟨mb,seen,ck,bx,by rw[hl,hb aC (by rintro⟨_,_,e⟩;cases e)];exact h2,by rw[hl];exact h3,g.S _ h4,by rw[g.heap mb h4];exact h5,h6⟩
 |mo esz es so=>
  obtain⟨bx,clock,hc,⟨h1,h2⟩,h3⟩:=h;refine⟨bx,clock,⟨by rw[hl,hb aC (by rintro⟨_,_,e⟩;cases e)];exact hc.1,hc.2⟩,⟨h1,λi e hi=>?_⟩,h3⟩
  obtain⟨e',mr,hk,hp,hd⟩:=h2 i e hi;exact⟨e',mr,hk,hp,hd.cm g (λa b c hh=>by cases hh;exact hid)⟩
 |iw mid gU seen=>
  obtain⟨h1,h2,s,h3,h4⟩:=h;exact⟨aa0 h1 g.n,by rw[hl];exact h2,s,by rw[hl,hb aC (by rintro⟨_,_,e⟩;cases e),g.aH (.al mid) h1];exact h3,h4⟩
theorem pX.cm{U U':bF}{w w':World}(g:iz U w U' w'){l:vl}{esz:Nat}{elems:List (List Dt)}(hb:w'.heap[l.b]? =w.heap[l.b]?)(h:pX U w l esz elems):pX U' w' l esz elems:=by
 obtain⟨cur,hc,h1,h2,h3⟩:=h;refine⟨cur,hc.dv hb,h1,h2,λi cs j d hi hj=>?_⟩
 obtain⟨u,hu,hd⟩:=h3 i cs j d hi hj;exact⟨u,hu,hd.mono g.S g.heap⟩
theorem au.eC{U:bF}{m:Mem}{w:World}(hM:au U m w){id:Nat}{bk:Bk}(h:m[id]? =some bk):id<U.n:=by rw[hM.n];exact(I4.1 h).1
theorem au.QQ{U:bF}{m:Mem}{w w':World}{bk:Bk}{l:vl}(hM:au U m w)(hw:eu w w')(GB:Live (U.push l) (m++ [bk]) (.al U.n)->w.heap.size<=l.b/\l.b<w'.heap.size)(de:cI (U.push l) w' m.length bk)(hf:bk.zU):au (U.push l) (m++ [bk]) w'/\Ext U m w (U.push l) (m++ [bk]) w':=by
 have hn:=hM.n;have g:iz U w (U.push l) w':=⟨by simp[bF.push],λk hk=>U.eD l hk,λb hb=>hb,λb hb=>hw.heap b (hM.S b hb)⟩
 have get:∀{id:Nat}{b:Bk},(m++ [bk])[id]? =some b->(id<U.n/\m[id]? =some b)\/(id=U.n/\b=bk):=by
  intro id b hb;rcases aad id m.length with h|h
  .exact .inl ⟨om,by rwa [Yf h]at hb⟩
  .rw[WH h]at hb;have:id-m.length=0:=by
    rcases abu (id-m.length)with h0|h0
    .exact h0
    .rw[aaZ (by simp;omega)]at hb;cases hb
   rw[this]at hb;exact .inr ⟨om,by simpa using hb.symm⟩
 have dY:∀{id i j esz elems},dM (m++ [bk]) id i j esz elems->id<U.n/\dM m id i j esz elems:=by
  rintro id i j esz elems ⟨b,hb,ho⟩;rcases get hb with⟨aD,hb⟩|⟨_,rfl⟩
  .exact⟨aD,b,hb,ho⟩
  .cases ho with
   |row hi hj=>exact absurd rfl (hf _ _ _ _ hi hj _ _)
   |mo hi=>exact absurd rfl (hf _ (RD hi) _)
 have df:∀k,Live (U.push l) (m++ [bk]) k->(k.id<U.n/\Live U m k)\/k= .al U.n:=by
  intro k hk;cases k with
  |al id=>
   obtain⟨b,hb,dt,bc⟩:=hk;rcases get hb with⟨aD,hb⟩|⟨rfl,_⟩
   .rw[U.eD l (k:= .al id) aD]at bc;exact .inl ⟨aD,b,hb,dt,bc⟩
   .exact .inr rfl
  |sub id i j=>
   obtain⟨⟨esz,elems,ho⟩,bc⟩:=hk;obtain⟨aD,ho⟩:=dY ho;rw[U.eD l (k:= .sub id i j) aD]at bc;exact .inl ⟨aD,⟨esz,elems,ho⟩,bc⟩
 have zW:(U.push l).aH (.al U.n)=l:=U.fN l;refine⟨⟨by simp[bF.push,hn],λb hb=>aa0 (hM.S b hb) hw.size,?_,?_,?_,?_⟩,⟨by simp[bF.push],λid hid=>U.eD l hid,λb hb=>hb,λb hb=>.inl hb,?_,?_,hw.size,hw.os,hw.tape,hw.output⟩⟩
 .intro k hk;rcases df k hk with⟨aD,hk⟩|rfl
  .rw[U.eD l aD];exact⟨aa0 (hM.aQ k hk).1 hw.size,(hM.aQ k hk).2⟩
  .rw[zW];exact⟨(GB hk).2,λhs=>by have:=hM.S _ hs;have:=(GB hk).1;omega⟩
 .intro k k' hk fU he;rcases df k hk with⟨aD,hk⟩|rfl<;>rcases df k' fU with⟨od,fU⟩|rfl
  .rw[U.eD l aD,U.eD l od]at he;exact hM.inj k k' hk fU he
  .rw[U.eD l aD,zW]at he;have:=(hM.aQ k hk).1;have:=(GB fU).1;omega
  .rw[U.eD l od,zW]at he;have:=(hM.aQ k' fU).1;have:=(GB hk).1;omega
  .rfl
 .intro id b hb;rcases get hb with⟨aD,hb⟩|⟨rfl,rfl⟩
  .exact(hM.bk id b hb).cm g aD λdt bc=>hw.heap _ (hM.aQ (.al id) ⟨b,hb,dt,bc⟩).1
  .rw[hn];exact de
 .intro id i j esz elems ho bc;obtain⟨aD,ho⟩:=dY ho;rw[U.eD l (k:= .sub id i j) aD]at bc|-;exact(hM.dV id i j esz elems ho bc).cm g (hw.heap _ (hM.aQ (.sub id i j) ⟨⟨esz,elems,ho⟩,bc⟩).1)
 .intro k hk;rcases df k hk with⟨aD,hk⟩|rfl
  .exact .inr ⟨k,hk,(by rw[U.eD l aD])⟩
  .exact .inl (by rw[zW];exact(GB hk).1)
 .intro b hb _;exact hw.heap b hb
theorem au.push{U:bF}{m:Mem}{w w':World}{bk:Bk}{l:vl}(hM:au U m w)(hw:eu w w')(h1:w.heap.size<=l.b)(h2:l.b<w'.heap.size)(de:cI (U.push l) w' m.length bk)(hf:bk.zU):au (U.push l) (m++ [bk]) w'/\Ext U m w (U.push l) (m++ [bk]) w':=
 hM.QQ hw (λ_=>⟨h1,h2⟩) de hf
structure eS(w w':World)(g:Nat):Prop where
 heap:∀b,b≠g->w'.heap[b]? =w.heap[b]?
 size:w'.heap.size=w.heap.size
 os:w'.os=w.os
 tape:w'.tape=w.tape
 output:w'.output=w.output
theorem au.KN{U:bF}{m:Mem}{w w':World}{id:Nat}{bk zX:Bk}(hM:au U m w)(hid:m[id]? =some bk)(bY:Live U m (.al id))(hw:eS w w' (U.aH (.al id)).b)(de:iz U w U w'->cI U w' id zX)(jQ:∀i j esz e,dM (m.set id zX) id i j esz e->dM m id i j esz e):au U (m.set id zX) w'/\Ext U m w U (m.set id zX) w':=by
 have aD:id<m.length:=(I4.1 hid).1;have hS:=(hM.aQ _ bY).2;have g:iz U w U w':=⟨Ts _,λ_ _=>rfl,λ_ h=>h,λb hb=>hw.heap b λe=>hS (e▸hb)⟩
 have get:∀{k:Nat}{b:Bk},(m.set id zX)[k]? =some b->(k≠id/\m[k]? =some b)\/(k=id/\b=zX):=by
  intro k b hb;by_cases hk:k=id
  .subst hk;rw[Tr aD]at hb;exact .inr ⟨rfl,by simpa using hb.symm⟩
  .rw[WE (Ne.symm hk)]at hb;exact .inl ⟨hk,hb⟩
 have dY:∀{k i j esz e},dM (m.set id zX) k i j esz e->dM m k i j esz e:=by
  intro k i j esz e ho;by_cases hk:k=id
  .subst hk;exact jQ i j esz e ho
  .obtain⟨b,hb,ho⟩:=ho;rw[WE (Ne.symm hk)]at hb;exact⟨b,hb,ho⟩
 have df:∀k,Live U (m.set id zX) k->Live U m k:=by
  intro k hk;cases k with
  |al k=>
   obtain⟨b,hb,hn,bc⟩:=hk;rcases get hb with⟨_,hb⟩|⟨rfl,_⟩
   .exact⟨b,hb,hn,bc⟩
   .exact bY
  |sub k i j=>
   obtain⟨⟨esz,e,ho⟩,bc⟩:=hk;exact⟨⟨esz,e,dY ho⟩,bc⟩
 refine⟨⟨by simp[hM.n],λb hb=>by rw[hw.size];exact hM.S b hb,λk hk=>by rw[hw.size];exact hM.aQ k (df k hk),λk k' hk fU=>hM.inj k k' (df k hk) (df k' fU),?_,?_⟩,
  ⟨Ts _,λ_ _=>rfl,λ_ h=>h,λ_ h=>.inl h,λk hk=>.inr ⟨k,df k hk,rfl⟩,λb _ hk=>hw.heap b λe=>hk _ bY e.symm,by rw[hw.size];exact Ts _,hw.os,hw.tape,hw.output⟩⟩
 .intro k b hb;rcases get hb with⟨UX,hb⟩|⟨rfl,rfl⟩
  .refine(hM.bk k b hb).cm g (hM.eC hb) λhn bc=>hw.heap _ λe=>?_
   have:=hM.inj (.al k) (.al id) ⟨b,hb,hn,bc⟩ bY e;injection this with this
   exact UX this
  .exact de g
 .intro k i j esz e ho bc;have fj:=dY ho;refine(hM.dV k i j esz e fj bc).cm g (hw.heap _ λhe=>?_)
  have:=hM.inj (.sub k i j) (.al id) ⟨⟨esz,e,fj⟩,bc⟩ bY he;cases this
theorem bh.cut{U:bF}{w:World}{pos:Option (Nat×Nat×Nat)}{c:CC}{v:Value}{n:Nat}(h:bh U w pos c v)(hi:c.di n):bh {U with n:=n} w pos c v:=by
 cases c<;>simp only[bh,CC.di]at h hi|-
 case ptr=>exact⟨hi,h.2⟩
 case nb=>exact⟨hi,h.2⟩
 case row=>exact⟨hi,h.2⟩
 case map=>exact⟨hi,h.2⟩
 case fn=>exact⟨hi,h.2⟩
 all_goals exact h
theorem dq.cut{U:bF}{w:World}{r:RV}{v:Value}{n:Nat}(h:dq U w r v)(hi:r.di n):dq {U with n:=n} w r v:=by
 cases r with
 |one c=>exact bh.cut h hi
 |agg cs=>
  obtain⟨vs,hv,hl,hc⟩:=h;exact⟨vs,hv,hl,λi c hj=>let⟨u,hu,hd⟩:=hc i c hj;⟨u,hu,hd.cut (hi c (RD hj))⟩⟩
theorem bZ.cut{U:bF}{w:World}{c:CV}{v:Value}{n:Nat}(h:bZ U w c v)(hi:c.di n):bZ {U with n:=n} w c v:=by
 cases c with
 |ap=>trivial
 |undef=>exact h
 |rv r=>exact dq.cut h hi
 |bz rs=>
  obtain⟨vs,hv,hl,hc⟩:=h;exact⟨vs,hv,hl,λi c hj=>let⟨u,hu,hd⟩:=hc i c hj;⟨u,hu,hd.cut (hi c (RD hj))⟩⟩
theorem cI.cut{U:bF}{w:World}{id:Nat}{bk:Bk}{n:Nat}(h:cI U w id bk)(hi:bk.di n):cI {U with n:=n} w id bk:=by
 cases bk with
 |aS=>trivial
 |var cs=>
  obtain⟨cur,hc,hd⟩:=h;exact⟨cur,hc,λj c hj=>let⟨u,hu,ct⟩:=hd j c hj;⟨u,hu,ct.cut (hi c (RD hj))⟩⟩
 |row esz elems=>
  obtain⟨h2,h3,h4,h5,bT⟩:=h;refine⟨h2,h3,h4,h5,λcH=>?_⟩
  obtain⟨cur,hc,h1,h6⟩:=bT cH;exact⟨cur,hc,h1,λi cs j c h7 h8=>let⟨u,hu,ct⟩:=h6 i cs j c h7 h8;⟨u,hu,ct.cut (hi cs (RD h7) c (RD h8))⟩⟩
 |mp es=>
  obtain⟨bx,clock,hc,h1,h2⟩:=h;exact⟨bx,clock,hc,h1,λi e h7=>let⟨e',mr,hk,hd⟩:=h2 i e h7;⟨e',mr,hk,hd.cut (hi e (RD h7))⟩⟩
 |it cur left=>exact h
 |mo esz es so=>
  obtain⟨bx,clock,hc,⟨h1,h2⟩,h3⟩:=h;refine⟨bx,clock,hc,⟨h1,λi e h7=>?_⟩,h3⟩
  obtain⟨e',mr,hk,hp,hd⟩:=h2 i e h7;refine⟨e',mr,hk,hp,hd.cut ?_⟩;have:=hi e (RD h7);obtain⟨k,v⟩:=e;cases v<;>exact this
 |iw mid gU seen=>exact⟨hi,h.2⟩
theorem mB.spec{m m':Mem}(h:mB m m'):m'.length<=m.length/\∀(i:Nat)b,m'[i]? =some b->∃b0,m[i]? =some b0/\(b=b0\/b= .aS):=by
 induction h with
 |nil m=>exact⟨aC,λi b hb=>by simp at hb⟩
 |cons h hm ih=>
  refine⟨by simp[ih.1],λi b hb=>?_⟩
  cases i with
  |zero=>simp at hb;subst hb;exact⟨_,aC,h⟩
  |succ i=>simpa using ih.2 i b (by simpa using hb)
theorem au.KO{U:bF}{m m':Mem}{w:World}(hM:au U m w)(h:mB m m')(KP:∀b,b∈m'->b.di m'.length):
  au {U with n:=m'.length} m' w/\(∀k,Live {U with n:=m'.length} m' k->Live U m k):=by
 have hs:=h.spec.2;have dY:∀{k i j esz e},dM m' k i j esz e->dM m k i j esz e:=by
  rintro k i j esz e ⟨b,hb,ho⟩;obtain⟨b0,HZ,rfl|h0⟩:=hs k _ hb
  .exact⟨_,HZ,ho⟩
  .subst h0;cases ho
 have df:∀k,Live {U with n:=m'.length} m' k->Live U m k:=by
  intro k hk;cases k with
  |al k=>
   obtain⟨b,hb,hn,bc⟩:=hk;obtain⟨b0,HZ,rfl|h0⟩:=hs k _ hb
   .exact⟨_,HZ,hn,bc⟩
   .exact absurd h0 hn
  |sub k i j=>
   obtain⟨⟨esz,e,ho⟩,bc⟩:=hk;exact⟨⟨esz,e,dY ho⟩,bc⟩
 refine⟨⟨rfl,hM.S,λk hk=>hM.aQ k (df k hk),λk k' hk fU=>hM.inj k k' (df k hk) (df k' fU),λid b hb=>?_,λid i j esz e ho bc=>hM.dV id i j esz e (dY ho) bc⟩,df⟩
 obtain⟨b0,HZ,rfl|h0⟩:=hs id b hb
 .exact(hM.bk id _ HZ).cut (KP _ (RD hb))
 .subst h0;trivial
structure bi(U:bF)(w:World)(aX:List CV)(tmps:Array Value):Prop where
 size:tmps.size=aX.length
 jR:∀(i:Nat)c,aX[i]? =some c->∃v,tmps[i]? =some v/\bZ U w c v
section
variable {P:Program} {U:bF} {m:Mem} {w:World} {aX:List CV} {a:Act}
theorem bi.get(hE:bi U w aX a.tmps)(t:Nat):bZ U w (kh aX t) (a.tmps.getD t Go.undef):=by
 rw[lN];cases h:aX[t]? with
 |none=>trivial
 |some c=>
  obtain⟨v,hv,hd⟩:=hE.jR t c h;simpa[abG,hv]using hd
theorem p6{v:Value}{c:CC}(h:vA v=some c):bh U w .none c v:=by
 unfold vA at h;split at h
 .simp at h;subst h;exact⟨none,rfl⟩
 .split at h
  .rename_i hp;simp at h;subst h;exact c7.val _ hp
  .cases h
theorem aR(hE:bi U w aX a.tmps){x:Operand}{x':X}(h:bm x=some x'):bZ U w (x'.ev aX) (a.eval x):=by
 cases x with
 |tmp t=>simp[bm]at h;subst h;exact hE.get t
 |const v=>
  simp only[bm,aao]at h;obtain⟨c,hc,rfl⟩:=h;exact p6 hc
 |func f=>simp[bm]at h;subst h;exact⟨aC,rfl⟩
 |global g=>simp[bm]at h
theorem fp{t:TypeId}{n:Nat}(h:eM P t=some n):(sizeOf t).run P w= .ok n w:=by simp only[eM,aao]at h;obtain⟨i,hi,rfl⟩:=h;simp[sizeOf,typeInfo,hi]
theorem o5{t:TypeId}{b:Bool}(h:ek P t=some b):(isAgg t).run P w= .ok b w:=by
 simp only[ek,aao]at h;obtain⟨d,hd,rfl⟩:=h;simp only[isAgg,Sem.run_bind,run_underlying hd,Result.andThen_ok];cases d<;>rfl
theorem l7(b off j:Nat):(⟨b,off,none⟩:Addr).add j=⟨b,off+j,none⟩:=by
 unfold Addr.add;split<;>simp_all
def ng(U:bF)(w:World)(b off:Nat)(l:List CC):Prop:=
 ∀(i:Nat)c,l[i]? =some c->∃u,w.cell? ⟨b,off+i,none⟩=some u/\bh U w .none c u
theorem ng.UY:∀{l:List CC}{b off:Nat},ng U w b off l->
  ∃vs:List Value,vs.length=l.length/\(∀j v,vs[j]? =some v->w.cell? ((⟨b,off,none⟩:Addr).add j)=some v)/\(∀(i:Nat)c,l[i]? =some c->∃u,vs[i]? =some u/\bh U w .none c u)
 | [],b,off,h=>⟨[],rfl,aC,aC⟩
 |c::l,b,off,h=>by
  obtain⟨u,hu,hd⟩:=h 0 c aC;obtain⟨vs,h1,h2,h3⟩:=ng.UY (l:=l) (b:=b) (off:=off+1) (λi c hi=>by
   have:=h (i+1) c (by simpa using hi)
   rwa [show off+(i+1)=off+1+i by omega]at this)
  refine⟨u::vs,by simp[h1],λj v hj=>?_,λi c' hi=>?_⟩
  .rw[l7];cases j with
   |zero=>simp at hj;subst hj;simpa using hu
   |succ j=>
    have:=h2 j v (by simpa using hj)
    rw[l7]at this;rwa [show off+(j+1)=off+1+j by omega]
  .cases i with
   |zero=>simp at hi;subst hi;exact⟨u,aC,hd⟩
   |succ i=>simpa using h3 i c' (by simpa using hi)
theorem p7{t:TypeId}{agg:Bool}{n:Nat}{b off:Nat}{l:List CC}{cv:CV}(ha:ek P t=some agg)(hs:eM P t=some n)(hl:l.length=n)(hc:ng U w b off l)(hm:KC agg l=some cv):∃v,(loadVar t ⟨b,off,none⟩).run P w= .ok v w/\bZ U w cv v:=by
 obtain⟨vs,h1,h2,h3⟩:=hc.UY;unfold loadVar;simp only[Sem.run_bind,o5 ha,Result.andThen_ok];cases agg with
 |true=>
  simp[KC]at hm;subst hm;have hr:=run_loadCells_list (P:=P) w ⟨b,off,none⟩ vs h2;refine⟨.agg vs.toArray,?_,vs,rfl,h1,h3⟩;simp only[if_true,Sem.run_bind,fp hs,Result.andThen_ok,<-hl,<-h1,hr,Sem.run_pure]
 |false=>
  match l,hm with
  | [c],hm=>
   simp[KC]at hm;subst hm;obtain⟨u,hu,hd⟩:=h3 0 c aC;have:=h2 0 u hu;rw[l7]at this;refine⟨u,?_,hd⟩;simp only[abQ,if_false,run_load];rw[show(⟨b,off,none⟩:Addr)=⟨b,off+0,none⟩ by simp,this]
theorem ud(hM:au U m w){t:TypeId}{agg:Bool}{n:Nat}(ha:ek P t=some agg)(hs:eM P t=some n){av:CV}{v:Value}{K:CV->Prop}(h:vr aX m agg n av K)(hd:bZ U w av v):∃ad u cv,v= .pointer (some ad)/\(loadVar t ad).run P w= .ok u w/\K cv/\bZ U w cv u:=by
 unfold vr at h;split at h
 .rename_i id j;obtain⟨aD,rfl⟩:=hd;obtain⟨bk,hb,h⟩:=aZ.1 h;rw[aT]at hb;cases bk<;>simp only at h
  rename_i cs;obtain⟨l,hr,h⟩:=aZ.1 h;obtain⟨cv,hm,hK⟩:=aZ.1 h;obtain⟨hl,lD⟩:=kQ hr;obtain⟨cur,bT,cq⟩:=hM.bk id _ hb;have hc:ng U w (U.aH (.al id)).b ((U.aH (.al id)).ar+j) l:=by
   intro i c hi;have iS:i<n:=by rw[<-hl];exact(I4.1 hi).1
   obtain⟨u,hu,ct⟩:=cq (j+i) c ((lD i iS).trans hi);exact⟨u,by rw[bT.cell,<-hu,abo],ct⟩
  obtain⟨u,cU,ct⟩:=p7 ha hs hl hc hm;exact⟨_,u,cv,rfl,cU,hK,ct⟩
 .rename_i id esz i j;obtain⟨aD,rfl⟩:=hd;obtain⟨bk,hb,h⟩:=aZ.1 h;rw[aT]at hb;cases bk<;>simp only at h
  rename_i n8 elems;rcases cn.1 h with⟨he,g1⟩|⟨_,g1⟩
  case inr=>exact g1.elim
  have he:esz=n8:=aai he;subst he;obtain⟨cells,dD,g2⟩:=aZ.1 g1;rw[aT]at dD;obtain⟨l,hr,g3⟩:=aZ.1 g2;rcases cn.1 g3 with⟨jS,g4⟩|⟨_,g4⟩
  case inr=>exact g4.elim
  obtain⟨cv,hm,hK⟩:=aZ.1 g4;obtain⟨hl,lD⟩:=kQ hr;obtain⟨h2,h3,h4,h5,BC⟩:=hM.bk id _ hb;have u7:=(I4.1 dD).1;obtain⟨cur,bT,h1,cq⟩:=BC om;have hc:ng U w (U.aH (.al id)).b ((U.aH (.al id)).ar+i*esz+j) l:=by
   intro k c hi;have iS:k<n:=by rw[<-hl];exact(I4.1 hi).1
   obtain⟨u,hu,ct⟩:=cq i cells (j+k) c dD ((lD k iS).trans hi);exact⟨u,by rw[bT.cell,<-hu,abo _ j k],ct.UW (vG jS c (RD hi))⟩
  obtain⟨u,cU,ct⟩:=p7 ha hs hl hc hm;exact⟨_,u,cv,rfl,cU,hK,ct⟩
 .rename_i ds;obtain⟨b,off,rfl,hS,cq⟩:=hd;obtain⟨l,hr,h⟩:=aZ.1 h;obtain⟨cv,hm,hK⟩:=aZ.1 h;obtain⟨hl,lD⟩:=vF hr;have hc:ng U w b off l:=by
   intro i c hi;have iS:i<n:=by rw[<-hl];exact(I4.1 hi).1
   obtain⟨d,uM,xQ⟩:=lD i iS;rw[hi]at xQ;simp at xQ;subst xQ;exact cq i d uM
  obtain⟨u,cU,ct⟩:=p7 ha hs hl hc hm;exact⟨_,u,cv,rfl,cU,hK,ct⟩
 .exact h.elim
def dh(P:Program)(s:Sem Next)(U:bF)(m:Mem)(w:World)(K:CV->Mem->Prop):Prop:=
 ∃nx v w' cv m' U',s.run P w= .ok nx w'/\(nx= .value v\/(nx= .skip/\v=Go.undef))/\K cv m'/\au U' m' w'/\bZ U' w' cv v/\Ext U m w U' m' w'
theorem dh.pure{s:Sem Next}{v:Value}{cv:CV}{K:CV->Mem->Prop}(hM:au U m w)(hr:s.run P w= .ok (.value v) w)(hK:K cv m)(hd:bZ U w cv v):dh P s U m w K:=
 ⟨_,v,w,cv,m,U,hr,.inl rfl,hK,hM,hd,Ext.refl _ _ _⟩
theorem bJ{v x:Value}(h:bZ U w (.rv (.one (.aa (.val x)))) v)(hx:x≠.slice none 0 0:=by first|(intro hh;cases hh;done)|assumption|simp):v=x/\cE x=true:=by
 cases h with
 |val v h=>exact⟨rfl,h⟩
 |no a=>exact absurd rfl hx
theorem cy{v:Value}(h:cE v=true):bZ U w (.rv (.one (.aa (.val v)))) v:=c7.val v h
theorem OP{t:TypeId}(ht:P.underlying t=some .bool)(neg:Bool)(a b:Bool):
  (binOp (if neg then .neq else .eql) t (.bool a) (.bool b)).run P w= .ok (.bool (match neg with|true=>!(a==b)|false=>a==b)) w:=by
 have h:∀d,(Op.equalIn (d+1) t (.bool a) (.bool b)).run P w= .ok (a==b) w:=λd=>by rw[Op.equalIn];simp[run_underlying ht]
 have h2:(Op.equal t (.bool a) (.bool b)).run P w= .ok (a==b) w:=h 9999;cases neg<;>simp[binOp,h2]
theorem D9{op:BinOp}{x y v:Value}(h:HV op x y=some v){t:TypeId}:(binOp op t x y).run P w= .ok v w/\cE v=true:=by
 cases x<;>cases y<;>simp only[HV]at h<;>try(cases h;done)
 case int.int k a k' b=>
  by_cases hk:k=k'
  .subst hk;cases op<;>simp only[decide_true]at h
   case shl=>
    by_cases hb:b<0
    .simp[hb]at h
    .simp[hb]at h;subst h;simp[binOp,Op.shift,hb,cE]
   case shr=>
    by_cases hb:b<0
    .simp[hb]at h
    .simp[hb]at h;subst h;simp[binOp,Op.shift,hb,cE]
   case quo=>
    by_cases hb:b=0
    .simp[hb]at h
    .simp[hb]at h;subst h;simp[binOp,Op.intDiv,hb,cE]
   case rem=>
    by_cases hb:b=0
    .simp[hb]at h
    .simp[hb]at h;subst h;simp[binOp,Op.intDiv,hb,cE]
   all_goals first
    |(cases h;done)
    |(simp only[aam]at h;subst h;simp[binOp,Op.intArith,Op.intBits,Op.intCmp,cE])
  .cases op<;>simp only[hk,decide_false]at h
   case shl=>
    by_cases hb:b<0
    .simp[hb]at h
    .simp[hb]at h;subst h;simp[binOp,Op.shift,hb,cE]
   case shr=>
    by_cases hb:b<0
    .simp[hb]at h
    .simp[hb]at h;subst h;simp[binOp,Op.shift,hb,cE]
   all_goals(cases h;done)
 case string.string a b=>
  cases op<;>simp only at h<;>try(cases h;done)
  case add=>
   by_cases hb:((a.size+b.size:Nat):Int)>IntKind.i64.max
   .rw[decide_eq_true hb]at h;cases h
   .rw[decide_eq_false hb]at h;simp only[aam]at h;subst h;refine⟨?_,rfl⟩;simp only[binOp,Op.stringOp];rw[if_neg hb];rfl
  all_goals(simp only[aam]at h;subst h;simp[binOp,Op.stringOp,cE])
theorem H0{op:UnOp}{x v:Value}(h:XI op x=some v):(Op.unary op x).run P w= .ok v w/\cE v=true:=by
 cases x<;>simp only[XI]at h<;>try(cases h;done)
 all_goals cases op<;>simp only at h<;>try(cases h;done)
 all_goals(simp only[aam]at h;subst h;simp[Op.unary,Op.intArith,cE])
theorem ue{op:BinOp}{t:TypeId}{x y:Operand}{a b:Value}(ha:cE a=true)(hn:a≠.nilIface):(eqGuard op t x y a b).run P w= .ok () w:=by
 unfold eqGuard;cases op<;>simp
 all_goals(cases a<;>simp_all[cE])
end
section
variable {P:Program} {U:bF} {m:Mem} {w:World} {aX:List CV} {a:Act} {K:CV->Mem->Prop}
theorem jC{cv:CV}{v:Value}{cs:List CC}(h:cellsOf cv=some cs)(hd:bZ U w cv v):
  v.cells.size=cs.length/\(∀(i:Nat)c,cs[i]? =some c->∃u,v.cells[i]? =some u/\bh U w .none c u)/\(∀u∈v.cells.toList,u.oneCell'=true):=by
 unfold cellsOf at h;split at h
 .rename_i c;simp at h;subst h;have h1:v.oneCell'=true:=bh.one hd;have hc:v.cells= #[v]:=by cases v<;>first|rfl|simp[Value.oneCell']at h1
  refine⟨by simp[hc],λi c' hi=>?_,by rw[hc];simpa using h1⟩
  cases i with
  |zero=>simp at hi;subst hi;exact⟨v,by simp[hc],hd⟩
  |succ i=>simp at hi
 .rename_i eR;simp at h;subst h;obtain⟨vs,rfl,hl,hc⟩:=hd;refine⟨by simp[Value.cells,hl],λi c hi=>?_,λu hu=>?_⟩
  .obtain⟨u,hu,ct⟩:=hc i c hi;exact⟨u,by simpa[Value.cells]using hu,ct⟩
  .simp only[Value.cells]at hu;obtain⟨i,hi,rfl⟩:=acA hu;have ew:i<vs.length:=by simpa using hi
   obtain⟨u,UZ,ct⟩:=hc i (eR[i]'(by omega)) (uX om)
   rw[uX ew]at UZ;simp at UZ;simpa[UZ]using ct.one
 .cases h
theorem eZ:∀{vs:List Value}{cs:List CC},my vs=some cs->vs.length=cs.length/\∀(i:Nat)c,cs[i]? =some c->∃u,vs[i]? =some u/\bh U w .none c u
 | [],cs,h=>by simp[my]at h;subst h;simp
 |v::r,cs,h=>by
  simp only[my,RX,N0]at h;obtain⟨c,hc,l,hl,h⟩:=h;simp at h;subst h;obtain⟨h1,h2⟩:=eZ hl;refine⟨by simp[h1],λi c' hi=>?_⟩
  cases i with
  |zero=>simp at hi;subst hi;exact⟨v,aC,p6 hc⟩
  |succ i=>simpa using h2 i c' (by simpa using hi)
theorem BV(hM:au U m w){cs:List CC}{cells:Array Value}{ty:TypeId}{w':World}(hw:w'=w.alloc (.cells cells ty)\/w'=w.drew.alloc (.cells cells ty))(hd:∀(i:Nat)c,cs[i]? =some c->∃u,cells[i]? =some u/\bh U w .none c u):
  ∃U',au U' (m++ [.var cs]) w'/\Ext U m w U' (m++ [.var cs]) w'/\bZ U' w' (.rv (.one (.ptr m.length 0))) (.pointer (some ⟨w.heap.size,0,none⟩)):=by
 have QR:eu w w':=by
  rcases hw with rfl|rfl
  .exact eu.alloc w _
  .exact(eu.drew w).trans (eu.alloc w.drew _)
 have bT:l6 True w' w.heap.size cells:=by
  rcases hw with rfl|rfl
  .exact l6.new w cells ty
  .exact l6.new w.drew cells ty
 have dn:w.heap.size<w'.heap.size:=bT.lt;let l:vl:=⟨w.heap.size,0,0,0⟩;have hn:=hM.n;have bM:(U.push l).aH (.al m.length)=l:=by rw[<-hn];exact U.fN l
 have g:iz U w (U.push l) w':=⟨by simp[bF.push],λk hk=>U.eD l hk,λb hb=>hb,λb hb=>QR.heap b (hM.S b hb)⟩
 have hb:cI (U.push l) w' m.length (.var cs):=by
  refine⟨cells,by rw[bM];exact bT,λj c hj=>?_⟩
  obtain⟨u,hu,ct⟩:=hd j c hj;exact⟨u,by rw[bM];simpa[l]using hu,ct.cm g aC⟩
 obtain⟨h1,h2⟩:=hM.push (l:=l) QR (Ts _) dn hb trivial;refine⟨_,h1,h2,by simp[bF.push,hn],?_⟩
 rw[bM]
theorem KQ(hM:au U m w){esz cap:Nat}{elems:List (List CC)}{cells:Array Value}{ty:TypeId}{w':World}(hw:w'=w.alloc (.cells cells ty)\/w'=w.drew.alloc (.cells cells ty))(dn:cap*esz<=cells.size)(hlen:elems.length<=cap)(bc:cap<=maxLen)(nX:∀cs,cs∈elems->cs.length=esz)(hd:∀(i:Nat)cs(j:Nat)c,elems[i]? =some cs->cs[j]? =some c->∃u,cells[i*esz+j]? =some u/\bh U w .none c u):
  ∃U',au U' (m++ [.row esz elems]) w'/\Ext U m w U' (m++ [.row esz elems]) w'/\
   bZ U' w' (.rv (.one (.row m.length esz 0 none))) (.slice (some ⟨w.heap.size,0,none⟩) elems.length cap):=by
 have QR:eu w w':=by
  rcases hw with rfl|rfl
  .exact eu.alloc w _
  .exact(eu.drew w).trans (eu.alloc w.drew _)
 have bT:l6 (esz=1) w' w.heap.size cells:=by
  rcases hw with rfl|rfl
  .exact l6.new w cells ty
  .exact l6.new w.drew cells ty
 have aD:w.heap.size<w'.heap.size:=bT.lt;let l:vl:=⟨w.heap.size,0,elems.length,cap⟩;have hn:=hM.n;have bM:(U.push l).aH (.al m.length)=l:=by rw[<-hn];exact U.fN l
 have g:iz U w (U.push l) w':=⟨by simp[bF.push],λk hk=>U.eD l hk,λb hb=>hb,λb hb=>QR.heap b (hM.S b hb)⟩
 have hb:cI (U.push l) w' m.length (.row esz elems):=by
  refine⟨by rw[bM],by rw[bM];exact hlen,by rw[bM];exact bc,nX,λ_=>⟨cells,by rw[bM];exact bT,by rw[bM];simpa[l]using dn,λi cs j c hi hj=>?_⟩⟩
  obtain⟨u,hu,ct⟩:=hd i cs j c hi hj;exact⟨u,by rw[bM];simpa[l]using hu,(ct.cm g aC).vH _⟩
 obtain⟨h1,h2⟩:=hM.push (l:=l) QR (Ts _) aD hb (λi cs j c hi hj=>by obtain⟨u,hu,ct⟩:=hd i cs j c hi hj;exact ct.zV)
 refine⟨_,h1,h2,by simp[bF.push,hn],?_⟩
 rw[bM];refine⟨aC,aC,hlen,bc,_,rfl,λ_=>?_⟩
 simp[l]
theorem BW(hM:au U m w){t:TypeId}{z:List CC}(hz:dW P t=some z)(h:step P (.alloc z) aX m K):
  dh P (do pure (Next.value (<-Instr.alloc t true (.tuple #[])))) U m w K:=by
 simp only[dW,RX,N0]at hz;obtain⟨i,hi,v,hv,hc⟩:=hz;obtain⟨hl,hd⟩:=eZ (U:=U) (w:=w) hc;obtain⟨U',h1,h2,h3⟩:=BV hM (ty:=t) (cells:=v.cells) (.inl rfl) (λi c hi=>by
  obtain⟨u,hu,ct⟩:=hd i c hi;exact⟨u,by simpa using hu,ct⟩)
 simp only[step,gx,bX]at h;refine⟨_,_,_,_,_,U',?_,.inl rfl,h,h1,h3,h2⟩;simp[Instr.alloc,zeroValue,typeInfo,hi,hv,newVar,newRow]
theorem H2(hM:au U m w)(hE:bi U w aX a.tmps){t:TypeId}{x:Operand}{x':X}(hx:bm x=some x')(h:step P (.box x') aX m K):
  dh P (do pure (Next.value (<-Instr.box t (a.eval x)))) U m w K:=by
 simp only[step]at h;obtain⟨cs,eB,h⟩:=aZ.1 h;obtain⟨hl,hd,_⟩:=jC eB (aR hE hx);obtain⟨U',h1,h2,h3⟩:=BV hM (ty:=t) (cells:=(a.eval x).cells) (.inl rfl) hd;simp only[gx,bX]at h;refine⟨_,_,_,_,_,U',?_,.inl rfl,h,h1,h3,h2⟩;simp[Instr.box,newVar,newRow]
theorem sR(off:Nat):∀(vs:List Value)(k:Nat)(cells:Array Value),
  let r:=(vs.zipIdx k).foldl (λ(cs:Array Value)(p:Value×Nat)=>cs.setIfInBounds (off+p.2) p.1) cells
  r.size=cells.size/\(off+k+vs.length<=cells.size->∀i,r[i]? =if off+k<=i/\i<off+k+vs.length then vs[i-(off+k)]? else cells[i]?)
 | [],k,cells=>by simp;intro _ i h1 h2;omega
 |v::r,k,cells=>by
  simp only[List.zipIdx_cons,List.foldl_cons];obtain⟨h1,h2⟩:=sR off r (k+1) (cells.setIfInBounds (off+k) v);refine⟨by rw[h1];simp,λhle i=>?_⟩
  simp only[aah]at hle;rw[h2 (by simp;omega) i]
  by_cases hc:off+(k+1)<=i/\i<off+(k+1)+r.length
  .rw[if_pos hc,if_pos (by simp;omega)]
   rw[show i-(off+k)=(i-(off+(k+1)))+1 by omega]
   simp
  .rw[if_neg hc];by_cases he:i=off+k
   .subst he;rw[if_pos aC];simp only[ack,ab5];rw[ab2];simp;omega
   .rw[if_neg (by simp;omega),ab2,if_neg om]
def Cells(U:bF)(w:World)(cs:List CC)(cells:Array Value):Prop:=
 cells.size=cs.length/\∀(i:Nat)c,cs[i]? =some c->∃u,cells[i]? =some u/\bh U w .none c u
theorem BX{place:Nat->Option (Nat×Nat)}{i off sz:Nat}{v:Value}{rest:List (Nat×Value)}{z z' cs:List CC}{cells:Array Value}(hp:place i=some (off,sz))(hz:Cells U w z cells)(hv:v.cells.size=sz)(ib:cs.length=sz)(hd:∀(i:Nat)c,cs[i]? =some c->∃u,v.cells[i]? =some u/\bh U w .none c u)(hw:gG z off cs=some z'):∃fc,Instr.fill place cells ((i,v)::rest)=Instr.fill place fc rest/\Cells U w z' fc:=by
 obtain⟨h1,h2,h3⟩:=jB hw;refine⟨(v.cells.zipIdx.foldl (λcs(p:Value×Nat)=>cs.setIfInBounds (off+p.2) p.1) cells),?_,?_⟩
 .rw[Instr.fill,hp];simp only;rw[if_neg (by rw[hz.1];simp;omega)]
 .have hf:=sR off v.cells.toList 0 cells;simp only[acm]at hf;have he:v.cells.zipIdx.foldl (λcs(p:Value×Nat)=>cs.setIfInBounds (off+p.2) p.1) cells=(v.cells.toList.zipIdx 0).foldl (λ(cs:Array Value)(p:Value×Nat)=>cs.setIfInBounds (off+p.2) p.1) cells:=by rw[<-Array.foldl_toList];simp
  rw[he];refine⟨by rw[hf.1,hz.1,h1],λk c hk=>?_⟩
  rw[hf.2 (by rw[hz.1];simp;omega) k]
  rw[h3 k]at hk;have hlen:v.cells.toList.length=cs.length:=by simp[hv,ib]
  rw[hlen];by_cases hc:off<=k/\k<off+cs.length
  .rw[if_pos hc]at hk|-;obtain⟨u,hu,ct⟩:=hd _ c hk;exact⟨u,by simpa using hu,ct⟩
  .rw[if_neg hc]at hk|-;exact hz.2 k c hk
theorem uf(hE:bi U w aX a.tmps){fs:Array Field}{place:Nat->Option (Nat×Nat)}(jD:∀i f,fs[i]? =some f->∀n,eM P f.type=some n->place i=some (f.offset,n)):
  ∀{ps:List (Nat×Operand)}{nY:List (Nat×Nat×X)}{z z':List CC}{cells:Array Value},mz P fs ps=some nY->nZ aX z nY=some z'->Cells U w z cells->
   ∃fc,Instr.fill place cells (ps.map λp=>(p.1,a.eval p.2))=some fc/\Cells U w z' fc
 | [],nY,z,z',cells,hp,hf,hz=>by simp[mz]at hp;subst hp;simp[nZ]at hf;subst hf;exact⟨cells,rfl,hz⟩
 |(i,x)::r,nY,z,z',cells,hp,hf,hz=>by
  simp only[mz,RX,N0]at hp;obtain⟨f,Yu,n,hn,x',hx,r',hr,hp⟩:=hp;simp at hp;subst hp;simp only[nZ]at hf;split at hf
  .rename_i cs eB;split at hf
   .rename_i hlen;have hlen:cs.length=n:=aai hlen;split at hf
    .rename_i z1 Oj;obtain⟨h1,h2,_⟩:=jC eB (aR hE hx);obtain⟨Sb,he,BD⟩:=BX (rest:=r.map λp=>(p.1,a.eval p.2)) (jD i f Yu n hn) hz (h1.trans hlen) hlen h2 Oj
     obtain⟨fc,mr,q8⟩:=uf hE jD hr hf BD;exact⟨fc,by rw[aa9,he,mr],q8⟩
    .cases hf
   .cases hf
  .cases hf
theorem ug(hE:bi U w aX a.tmps){sz:Nat}{place:Nat->Option (Nat×Nat)}(jD:∀i,place i=some (i*sz,sz)):
  ∀{ps:List (Nat×Operand)}{nY:List (Nat×Nat×X)}{z z':List CC}{cells:Array Value},kI sz ps=some nY->nZ aX z nY=some z'->Cells U w z cells->
   ∃fc,Instr.fill place cells (ps.map λp=>(p.1,a.eval p.2))=some fc/\Cells U w z' fc
 | [],nY,z,z',cells,hp,hf,hz=>by simp[kI]at hp;subst hp;simp[nZ]at hf;subst hf;exact⟨cells,rfl,hz⟩
 |(i,x)::r,nY,z,z',cells,hp,hf,hz=>by
  simp only[kI,RX,N0]at hp;obtain⟨x',hx,r',hr,hp⟩:=hp;simp at hp;subst hp;simp only[nZ]at hf;split at hf
  .rename_i cs eB;split at hf
   .rename_i hlen;have hlen:cs.length=sz:=aai hlen;split at hf
    .rename_i z1 Oj;obtain⟨h1,h2,_⟩:=jC eB (aR hE hx);obtain⟨Sb,he,BD⟩:=BX (rest:=r.map λp=>(p.1,a.eval p.2)) (jD i) hz (h1.trans hlen) hlen h2 Oj
     obtain⟨fc,mr,q8⟩:=ug hE jD hr hf BD;exact⟨fc,by rw[aa9,he,mr],q8⟩
    .cases hf
   .cases hf
  .cases hf
theorem Ea{t:TypeId}{z:List CC}(hz:dW P t=some z):∃v,(zeroValue t).run P w= .ok v w/\Cells U w z v.cells:=by
 simp only[dW,RX,N0]at hz;obtain⟨i,hi,v,hv,hc⟩:=hz;obtain⟨hl,hd⟩:=eZ (U:=U) (w:=w) hc;refine⟨v,by simp[zeroValue,typeInfo,hi,hv],by simpa using hl,λi c hi=>?_⟩
 obtain⟨u,hu,ct⟩:=hd i c hi;exact⟨u,by simpa using hu,ct⟩
theorem GC{cs:List CC}{cells:Array Value}(h:Cells U w cs cells):bZ U w (.rv (.agg cs)) (.agg cells):=
 ⟨cells.toList,aC,by simpa using h.1,λi c hi=>let⟨u,hu,hd⟩:=h.2 i c hi;⟨u,by simpa using hu,hd⟩⟩
end
section
variable {P:Program} {U:bF} {m:Mem} {w:World} {aX:List CV} {a:Act} {K:CV->Mem->Prop}
theorem BY{α β:Type}{f:α->Option β}:∀{l:List α}{r:List β},l.mapM f=some r->∀(i:Nat)x,l[i]? =some x->∃y,f x=some y/\r[i]? =some y
 | [],r,h,i,x,hx=>by simp at hx
 |a::l,r,h,i,x,hx=>by
  simp only[List.mapM_cons,RX,N0,Option.pure_def]at h;obtain⟨y,hy,ys,hys,h⟩:=h;simp at h;subst h;cases i with
  |zero=>simp at hx;subst hx;exact⟨y,hy,aC⟩
  |succ i=>simpa using BY hys i x (by simpa using hx)
theorem uh(hM:au U m w)(hE:bi U w aX a.tmps){t:TypeId}{ps:Array (Nat×Operand)}{z:List CC}{nY:List (Nat×Nat×X)}(hz:dW P t=some z)(hp:(∃fs,P.underlying t=some (.struct fs)/\(fs.toList.mapM (λf=>(P.info? f.type).map λi=>(f.offset,i.size))).isSome=true/\mz P fs ps.toList=some nY)\/
   (∃n e sz,P.underlying t=some (.array n e)/\eM P e=some sz/\kI sz ps.toList=some nY))(h:step P (.build z nY) aX m K):dh P (do pure (Next.value (<-Instr.build t (ps.map λ(i,x)=>(i,a.eval x))))) U m w K:=by
 simp only[step]at h;obtain⟨z',hf,hK⟩:=aZ.1 h;have DN:=hz;simp only[dW,RX,N0]at hz;obtain⟨i,hi,v,hv,hc⟩:=hz;obtain⟨hl,hd⟩:=eZ (U:=U) (w:=w) hc;have dD:Cells U w z v.cells:=⟨by simpa using hl,λi c hi=>by
  obtain⟨u,hu,ct⟩:=hd i c hi;exact⟨u,by simpa using hu,ct⟩⟩
 have key:∃cells,P.built t (ps.map λ(i,x)=>(i,a.eval x)).toList=some cells/\Cells U w z' cells:=by
  rcases hp with⟨fs,hu,fI,Yv⟩|⟨n,e,sz,hu,dn,Yv⟩
  .obtain⟨places,jD⟩:=Option.isSome_iff_exists.1 fI;obtain⟨cells,h1,h2⟩:=uf hE (fs:=fs) (place:=λi=>places.toArray[i]?) (λi f Yu n hn=>by
    obtain⟨y,hy,hr⟩:=BY jD i f (by simpa using Yu)
    simp only[eM,aao]at hn hy;obtain⟨i1,KR,rfl⟩:=hn;obtain⟨i2,eO,rfl⟩:=hy;rw[KR]at eO;cases eO;simpa using hr) Yv hf dD
   refine⟨cells,?_,h2⟩;unfold Program.built;simp only[hi,hu,hv,jD];simpa using h1
  .obtain⟨cells,h1,h2⟩:=ug hE (sz:=sz) (place:=λi=>some (i*sz,sz)) (λi=>rfl) Yv hf dD
   refine⟨cells,?_,h2⟩;simp only[eM,aao]at dn;obtain⟨ie,m9,rfl⟩:=dn;unfold Program.built;simp only[hi,hu,hv,m9];simpa using h1
 obtain⟨cells,hb,eB⟩:=key;refine dh.pure hM (v:= .agg cells) ?_ hK (GC eB);rw[Sem.run_bind,run_build w t _ cells hb];rfl
theorem Eb(hM:au U m w)(hE:bi U w aX a.tmps){t:TypeId}{x:Operand}{x':X}{agg:Bool}{n:Nat}(ha:ek P t=some agg)(hs:eM P t=some n)(hx:bm x=some x')(h:step P (.load agg n x') aX m K):dh P (do pure (Next.value (<-Instr.loadAt t (a.eval x)))) U m w K:=by
 simp only[step]at h;obtain⟨ad,u,cv,hv,hr,hK,hd⟩:=ud hM ha hs h (aR hE hx);refine dh.pure hM (v:=u) ?_ hK hd;rw[hv];simp[Instr.loadAt,Instr.sureAddr,hr]
theorem nh{mk:Prop}(g o:Nat):∀(vs:List Value)(i:Nat)(cur:Array Value)(w:World),l6 mk w g cur->o+i+vs.length<=cur.size->(∀v∈vs,v.oneCell'=true)->
  ∃w' gH,(storeCells ⟨g,o,none⟩ vs i).run P w= .ok () w'/\l6 mk w' g gH/\eS w w' g/\gH.size=cur.size/\
   ∀k,gH[k]? =if o+i<=k/\k<o+i+vs.length then vs[k-(o+i)]? else cur[k]?
 | [],i,cur,w,hc,_,_=>⟨w,cur,rfl,hc,⟨λ_ _=>rfl,rfl,rfl,rfl,rfl⟩,rfl,λk=>by rw[if_neg aC]⟩
 |v::r,i,cur,w,hc,hl,h1=>by
  simp only[aah]at hl;have hi:o+i<cur.size:=om;have iZ:w.cell? ⟨g,o+i,none⟩=some cur[o+i]:=by rw[hc.cell];simp[hi]
  have Yw:=hc.pW hi;have lw:(store ((⟨g,o,none⟩:Addr).add i) v).run P w= .ok () (w.setCell ⟨g,o+i,none⟩ v):=by rw[l7,run_store P w _ v _ (h1 v aC),iZ];simp[Yw]
  have BD:l6 mk (w.setCell ⟨g,o+i,none⟩ v) g (cur.setIfInBounds (o+i) v):=by
   obtain⟨ty,fr,hb,hf⟩:=hc;refine⟨ty,fr,?_,by simpa using hf⟩
   simp[World.setCell,abx,hb]
  have zY:eS w (w.setCell ⟨g,o+i,none⟩ v) g:=⟨λb hb=>by simp[World.setCell,abx,Ne.symm hb],aC,rfl,rfl,rfl⟩
  obtain⟨w',gH,hr,q8,ht,dn,hk⟩:=nh g o r (i+1) _ _ BD (by simp;omega) (λx hx=>h1 x (by simp[hx]))
  refine⟨w',gH,?_,q8,⟨λb hb=>(ht.heap b hb).trans (zY.heap b hb),ht.size.trans zY.size,ht.os,ht.tape,ht.output⟩,by simpa using dn,λk=>?_⟩
  .simp only[storeCells,Sem.run_bind,lw,Result.andThen_ok];exact hr
  .rw[hk k];simp only[aah];by_cases hb:o+(i+1)<=k/\k<o+(i+1)+r.length
   .rw[if_pos hb,if_pos om,show k-(o+i)=(k-(o+(i+1)))+1 by omega]
    simp
   .rw[if_neg hb,ab2];by_cases he:o+i=k
    .subst he;rw[if_pos rfl,if_pos om];simp
    .rw[if_neg he,if_neg om]
theorem BZ(hM:au U m w)(hE:bi U w aX a.tmps){t:TypeId}{n:Nat}{p x:Operand}{p' x':X}(hs:eM P t=some n)(GD:n≠0)(hp:bm p=some p')(hx:bm x=some x')(h:step P (.store n p' x') aX m K):dh P (do Instr.storeAt t (a.eval p) (a.eval x);pure Next.skip) U m w K:=by
 simp only[step]at h;obtain⟨xs,Yx,h⟩:=aZ.1 h;rcases cn.1 h with⟨hn,h⟩|⟨_,h⟩
 case inr=>exact h.elim
 have hn:xs.length=n:=aai hn;obtain⟨c1,c2,c3⟩:=jC Yx (aR hE hx);have XL:=aR hE hp;generalize a.eval p=pv at XL;generalize p'.ev aX=pc at XL h;generalize a.eval x=xv at c1 c2 c3;have sv:∀ad:Addr,Instr.storeAt t (.pointer (some ad)) xv=storeVar t ad xv:=λad=>rfl
 have run:∀{mk:Prop}(b off:Nat)(cur:Array Value),l6 mk w b cur->off+xs.length<=cur.size->∃w' gH,(storeVar t ⟨b,off,none⟩ xv).run P w= .ok () w'/\l6 mk w' b gH/\eS w w' b/\gH.size=cur.size/\
   ∀k,gH[k]? =if off<=k/\k<off+xs.length then xv.cells[k-off]? else cur[k]? :=by
  intro mk b off cur hc hle;obtain⟨w',gH,h1,h2,h3,h4,h5⟩:=nh (P:=P) b off xv.cells.toList 0 cur w hc (by simp[c1];omega) c3
  refine⟨w',gH,?_,h2,h3,h4,λk=>?_⟩
  .unfold storeVar;rw[Sem.run_bind,fp hs];simp only[Result.andThen_ok];rw[if_neg (by rw[c1,hn];simp)]
   simpa using h1
  .rw[h5 k];simp[c1]
 split at h
 .rename_i id j;obtain⟨aD,rfl⟩:=XL;obtain⟨bk,hb,h⟩:=aZ.1 h;rw[aT]at hb;cases bk<;>simp only at h
  rename_i cs;obtain⟨eR,hw,hK⟩:=aZ.1 h;obtain⟨w1,w2,w3⟩:=jB hw;obtain⟨cur,bT,cq⟩:=hM.bk id _ hb;rw[a8]at hK;have kn:(U.aH (.al id)).ar+j+xs.length<=cur.size:=by obtain⟨u,hu,_⟩:=cq (j+xs.length-1) _ (uX om);have:=(aap.1 hu).1;omega
  obtain⟨w',gH,hr,q8,ht,dn,hk⟩:=run (U.aH (.al id)).b ((U.aH (.al id)).ar+j) cur bT kn;obtain⟨jc,hX⟩:=hM.KN (zX:= .var eR) hb ⟨_,hb,aC,by rintro⟨_,_,e⟩;cases e⟩ ht (λg=>⟨gH,q8,λk c OQ=>by
   rw[w3 k]at OQ;rw[hk];by_cases iS:j<=k/\k<j+xs.length
   .rw[if_pos iS]at OQ;rw[if_pos om];obtain⟨u,hu,ct⟩:=c2 _ c OQ;exact⟨u,by rw[<-hu];congr 1;omega,ct.cm g aC⟩
   .rw[if_neg iS]at OQ;rw[if_neg om];obtain⟨u,hu,ct⟩:=cq k c OQ;exact⟨u,hu,ct.cm g aC⟩⟩) (by
   rintro i' j' esz e ⟨b2,fx,gV⟩;rw[Tr (by rw[<-hM.n];exact aD)]at fx
   cases fx;cases gV)
  refine⟨.skip,Go.undef,w',.undef,_,U,?_,.inr ⟨rfl,rfl⟩,hK,jc,rfl,hX⟩;rw[sv,Sem.run_bind,hr];rfl
 .rename_i id esz i j;obtain⟨aD,rfl⟩:=XL;obtain⟨bk,hb,h⟩:=aZ.1 h;rw[aT]at hb;cases bk<;>simp only at h
  rename_i n8 elems;rcases cn.1 h with⟨he,h⟩|⟨_,h⟩
  case inr=>exact h.elim
  have he:esz=n8:=aai he;obtain⟨cells,dD,h⟩:=aZ.1 h;rw[aT]at dD;rcases cn.1 h with⟨jS,h⟩|⟨_,h⟩
  case inr=>exact h.elim
  obtain⟨fc,hw,hK⟩:=aZ.1 h;obtain⟨w1,w2,w3⟩:=jB hw;obtain⟨h2,h3,h4,h5,BC⟩:=hM.bk id _ hb;have u7:=(I4.1 dD).1;have cH:0<(U.aH (.al id)).cap:=om;obtain⟨cur,bT,h1,cq⟩:=BC cH;rw[a8,a8]at hK;subst he;have ib:cells.length=esz:=h5 _ (RD dD);have hi:i<elems.length:=(I4.1 dD).1;have hmul:i*esz+esz<=(U.aH (.al id)).cap*esz:=by have:(i+1)*esz<=(U.aH (.al id)).cap*esz:=abh _ om;rwa [abr,abZ]at this
  obtain⟨w',gH,hr,q8,ht,dn,hk⟩:=run (U.aH (.al id)).b ((U.aH (.al id)).ar+i*esz+j) cur bT om;obtain⟨jc,hX⟩:=hM.KN (zX:= .row esz (elems.set i fc)) hb ⟨_,hb,aC,λ_=>cH⟩ ht (λg=>⟨by simpa using h2,h3,h4,λcs eB=>by
    rcases aa2 eB with hm|rfl
    .exact h5 cs hm
    .rw[w1,ib],λ_=>⟨gH,q8,by rw[dn];exact h1,λi' cs j' c ew pu=>by
   rw[hk];by_cases Ok:i=i'
   .subst Ok;rw[Tr hi]at ew;simp only[aam]at ew;subst ew;rw[w3 j']at pu;by_cases iS:j<=j'/\j'<j+xs.length
    .rw[if_pos iS]at pu;rw[if_pos om];obtain⟨u,hu,ct⟩:=c2 _ c pu;exact⟨u,by rw[<-hu];congr 1;omega,(ct.cm g aC).vH _⟩
    .rw[if_neg iS]at pu;rw[if_neg om];obtain⟨u,hu,ct⟩:=cq i cells j' c dD pu;exact⟨u,hu,ct.cm g (by rintro _ _ _ e;cases e;exact aD)⟩
   .rw[WE Ok]at ew;obtain⟨u,hu,ct⟩:=cq i' cs j' c ew pu;have acD:j'<esz:=by rw[<-h5 _ (RD ew)];exact(I4.1 pu).1
    have dt:¬((U.aH (.al id)).ar+i*esz+j<=(U.aH (.al id)).ar+i'*esz+j'/\(U.aH (.al id)).ar+i'*esz+j'<(U.aH (.al id)).ar+i*esz+j+xs.length):=by
     rcases Nat.lt_or_gt_of_ne Ok with od|od
     .have:(i+1)*esz<=i'*esz:=abh _ od;rw[abr,abZ]at this;omega
     .have:(i'+1)*esz<=i*esz:=abh _ od;rw[abr,abZ]at this;omega
    rw[if_neg dt];exact⟨u,hu,ct.cm g (by rintro _ _ _ e;cases e;exact aD)⟩⟩⟩) (by
   rintro i' j' qW e ⟨b2,fx,gV⟩;rw[Tr (by rw[<-hM.n];exact aD)]at fx
   cases fx;obtain⟨XM,eO,lA⟩:=gV.xV;by_cases Ok:i=i'
   .subst Ok;rw[Tr hi]at eO;cases eO;rw[w3 j']at lA;by_cases iS:j<=j'/\j'<j+xs.length
    .rw[if_pos iS]at lA;obtain⟨u,hu,ct⟩:=c2 _ _ lA;exact absurd rfl (ct.zV _ _)
    .rw[if_neg iS]at lA;exact⟨_,hb,.row dD lA⟩
   .rw[WE Ok]at eO;exact⟨_,hb,.row eO lA⟩)
  refine⟨.skip,Go.undef,w',.undef,_,U,?_,.inr ⟨rfl,rfl⟩,hK,jc,rfl,hX⟩;rw[sv,Sem.run_bind,hr];rfl
 .exact h.elim
end
section
variable {P:Program} {U:bF} {m:Mem} {w:World} {aX:List CV} {a:Act} {K:CV->Mem->Prop}
theorem Ec(hM:au U m w)(hE:bi U w aX a.tmps){t:TypeId}{fs:Array Field}{f:Field}{k n:Nat}{x:Operand}{x':X}(hu:P.underlying t=some (.struct fs))(hf:fs[k]? =some f)(hs:eM P f.type=some n)(hn:n≠0)(hx:bm x=some x')(h:step P (.cj f.offset x') aX m K):dh P (do pure (Next.value (<-Instr.fieldAt t (a.eval x) k))) U m w K:=by
 have hd:=aR hE hx;simp only[step]at h;have run:∀b off:Nat,(Instr.fieldAt t (.pointer (some ⟨b,off,none⟩)) k).run P w= .ok (.pointer (some ⟨b,off+f.offset,none⟩)) w:=λb off=>by simp[Instr.fieldAt,run_underlying hu,hf,Instr.sureAddr,fieldPlace,fp hs,hn,l7]
 generalize a.eval x=v at hd|-;generalize x'.ev aX=c at hd h;split at h
 .obtain⟨aD,rfl⟩:=hd;exact dh.pure hM (by rw[Sem.run_bind,run];rfl) h ⟨aD,by simp[abo]⟩
 .obtain⟨aD,rfl⟩:=hd;exact dh.pure hM (by rw[Sem.run_bind,run];rfl) h ⟨aD,by simp[abo]⟩
 .obtain⟨b,off,rfl,hS,cq⟩:=hd;refine dh.pure hM (by rw[Sem.run_bind,run];rfl) h ⟨b,off+f.offset,rfl,hS,λj d hj=>?_⟩
  rw[abp]at hj;rw[abo];exact cq _ d hj
 .exact h.elim
theorem B0{t:TypeId}{agg:Bool}{off n:Nat}{cs l:List CC}{cells:Array Value}{cv:CV}(ha:ek P t=some agg)(hs:eM P t=some n)(hc:Cells U w cs cells)(hr:iX cs off n=some l)(hm:KC agg l=some cv):∃u,(part t cells off).run P w= .ok u w/\bZ U w cv u:=by
 obtain⟨hl,lD⟩:=kQ hr;unfold part;rw[Sem.run_bind,o5 ha];simp only[Result.andThen_ok];cases agg with
 |true=>
  simp[KC]at hm;subst hm;refine⟨.agg (cells.extract off (off+n)),by simp[fp hs],?_⟩
  refine GC ⟨?_,λi c hi=>?_⟩
  .simp only[Array.size_extract,hl];rcases abu n with h0|h0
   .omega
   .have:=lD (n-1) om;have h1:off+(n-1)<cs.length:=by
     rcases aad (off+(n-1)) cs.length with h|h
     .exact h
     .rw[aaZ h,uX om]at this;cases this
    have:=hc.1;omega
  .have iS:i<n:=by rw[<-hl];exact(I4.1 hi).1
   obtain⟨u,hu,ct⟩:=hc.2 (off+i) c ((lD i iS).trans hi);have aD:=(aap.1 hu).1;refine⟨u,?_,ct⟩;rw[Array.getElem?_extract];rw[if_pos om];exact hu
 |false=>
  match l,hm with
  | [c],hm=>
   simp[KC]at hm;subst hm;obtain⟨u,hu,ct⟩:=hc.2 off c (by have:=lD 0 (by simp at hl;omega);simpa using this)
   exact⟨u,by simp[hu],ct⟩
theorem H3(hM:au U m w)(hE:bi U w aX a.tmps){t:TypeId}{fs:Array Field}{f:Field}{k n:Nat}{agg:Bool}{x:Operand}{x':X}(hu:P.underlying t=some (.struct fs))(hf:fs[k]? =some f)(ha:ek P f.type=some agg)(hs:eM P f.type=some n)(hx:bm x=some x')(h:step P (.UK agg f.offset n x') aX m K):dh P (do pure (Next.value (<-Instr.field t (a.eval x) k))) U m w K:=by
 have hd:=aR hE hx;simp only[step]at h;generalize a.eval x=v at hd|-;generalize x'.ev aX=c at hd h;split at h
 .rename_i cs;obtain⟨vs,rfl,hl,hc⟩:=hd;obtain⟨l,hr,h⟩:=aZ.1 h;obtain⟨cv,hm,hK⟩:=aZ.1 h;obtain⟨u,cU,ct⟩:=B0 (w:=w) ha hs (cells:=vs.toArray) ⟨by simpa using hl,λi c hi=>by simpa using hc i c hi⟩ hr hm
  refine dh.pure hM (v:=u) ?_ hK ct;simp[Instr.field,run_underlying hu,hf,asAgg,cU]
 .exact h.elim
theorem yy{α:Type}{l:List α}{n:Int}{x:α}(h:dx l n=some x):∃k:Nat,n=k/\l[k]? =some x:=by
 cases n with
 |ofNat k=>exact⟨k,rfl,by simpa[dx,aT]using h⟩
 |negSucc k=>simp[dx]at h
theorem mC{n:Int}{len k:Nat}(h:dN n len=some k):n=k/\k<len:=by
 cases n with
 |ofNat j=>
  simp only[dN]at h;split at h
  .rename_i hb;simp at h;subst h;exact⟨rfl,by simpa[abL]using hb⟩
  .cases h
 |negSucc j=>simp[dN]at h
theorem lO(a b:Nat):ip a b=a+b:=by
 cases a<;>simp[ip]
theorem iB(n lo:Nat)(hi:Option Nat):lenOf n lo hi=hi.getD n-lo:=by
 cases lo<;>cases hi<;>simp[lenOf]
theorem o6{k:IntKind}{n:Int}{v:Value}(h:bZ U w (.rv (.one (.aa (.val (.int k n))))) v):v= .int k n:=(bJ h).1
theorem lP{t e:TypeId}{esz:Nat}(hu:P.underlying t=some (.slice e))(hs:eM P e=some esz)(b off len cap k:Nat)(kd:IntKind)(hk:k<len):
  (Instr.indexAt t (.slice (some ⟨b,off,none⟩) len cap) (.int kd (k:Int))).run P w= .ok (.pointer (some ⟨b,off+k*esz,none⟩)) w:=by
 have h1:(0:Int)<=(k:Int)/\(k:Int)<(len:Int):=⟨om,om⟩;simp[Instr.indexAt,asIntOf,run_underlying hu,fp hs,l7];omega
theorem H4(hM:au U m w)(hE:bi U w aX a.tmps){t e:TypeId}{esz:Nat}{x i:Operand}{x' i':X}(hu:P.underlying t=some (.slice e))(hs:eM P e=some esz)(hx:bm x=some x')(hi:bm i=some i')(h:step P (.cw esz x' i') aX m K):dh P (do pure (Next.value (<-Instr.indexAt t (a.eval x) (a.eval i)))) U m w K:=by
 have hd:=aR hE hx;have DO:=aR hE hi;simp only[step]at h;generalize a.eval x=v at hd|-;generalize a.eval i=vi at DO|-;generalize x'.ev aX=c at hd h;generalize i'.ev aX=ci at DO h;split at h
 .rename_i kd n;obtain rfl:=o6 DO;split at h
  .rename_i n8 elems;rcases cn.1 h with⟨he,g1⟩|⟨_,g1⟩
   case inr=>exact g1.elim
   have he:esz=n8:=aai he;subst he;obtain⟨ds,hg,hK⟩:=aZ.1 g1;obtain⟨k,rfl,hk⟩:=yy hg;have aD:=(I4.1 hk).1;cases hd with
   |nil=>simp at aD
   |sl _ _ b off cap u hS hl bc dn hc cq=>
    refine dh.pure hM (by rw[Sem.run_bind,lP hu hs b off _ cap k kd aD];rfl) hK ⟨b,off+k*esz,rfl,hS,λj d hj=>?_⟩
    exact⟨_,hc k ds j d hk hj,cq k ds j d hk hj⟩
  .rename_i id n8 lo hi;obtain⟨bk,hb,h⟩:=aZ.1 h;rw[aT]at hb;cases bk<;>simp only at h
   rename_i qW elems;rcases cn.1 h with⟨he,g1⟩|⟨_,g1⟩
   case inr=>exact g1.elim
   rcases cn.1 g1 with⟨jY,g2⟩|⟨_,g2⟩
   case inr=>exact g2.elim
   have he:esz=n8:=aai he;subst he;obtain⟨k,hg,hK⟩:=aZ.1 g2;obtain⟨rfl,hk⟩:=mC hg;obtain⟨h2,h3,h4,h5,BC⟩:=hM.bk id _ hb;obtain⟨aD,d1,d2,d3,d4,ad,rfl,uN⟩:=hd;rw[iB,h2]at hk;rw[uN (by clear BC;omega)]
   refine dh.pure hM (by rw[Sem.run_bind,lP hu hs _ _ _ _ k kd hk];rfl) hK ⟨aD,?_⟩
   rw[lO,abr];simp[abo]
  .exact h.elim
 .exact h.elim
theorem iC{t e:TypeId}{esz len:Nat}(hu:P.underlying t=some (.array len e))(hs:eM P e=some esz)(b off k:Nat)(kd:IntKind)(hk:k<len):
  (Instr.indexAt t (.pointer (some ⟨b,off,none⟩)) (.int kd (k:Int))).run P w= .ok (.pointer (some ⟨b,off+k*esz,none⟩)) w:=by
 have h1:(0:Int)<=(k:Int)/\(k:Int)<(len:Int):=⟨om,om⟩;simp[Instr.indexAt,asIntOf,run_underlying hu,fp hs,l7,Instr.sureAddr];omega
theorem Ed(hM:au U m w)(hE:bi U w aX a.tmps){t e:TypeId}{len esz:Nat}{x i:Operand}{x' i':X}(hu:P.underlying t=some (.array len e))(hs:eM P e=some esz)(hx:bm x=some x')(hi:bm i=some i')(h:step P (.BN len esz x' i') aX m K):dh P (do pure (Next.value (<-Instr.indexAt t (a.eval x) (a.eval i)))) U m w K:=by
 have hd:=aR hE hx;have DO:=aR hE hi;simp only[step]at h;generalize a.eval x=v at hd|-;generalize a.eval i=vi at DO|-;generalize x'.ev aX=c at hd h;generalize i'.ev aX=ci at DO h;split at h
 .rename_i kd n;obtain rfl:=o6 DO;split at h
  .obtain⟨k,hg,hK⟩:=aZ.1 h;obtain⟨rfl,hk⟩:=mC hg;obtain⟨aD,rfl⟩:=hd;exact dh.pure hM (by rw[Sem.run_bind,iC hu hs _ _ k kd hk];rfl) hK ⟨aD,by simp[abo]⟩
  .obtain⟨k,hg,hK⟩:=aZ.1 h;obtain⟨rfl,hk⟩:=mC hg;obtain⟨aD,rfl⟩:=hd;exact dh.pure hM (by rw[Sem.run_bind,iC hu hs _ _ k kd hk];rfl) hK ⟨aD,by simp[abo]⟩
  .obtain⟨k,hg,hK⟩:=aZ.1 h;obtain⟨rfl,hk⟩:=mC hg;obtain⟨b,off,rfl,hS,cq⟩:=hd;refine dh.pure hM (by rw[Sem.run_bind,iC hu hs _ _ k kd hk];rfl) hK ⟨b,off+k*esz,rfl,hS,λj d hj=>?_⟩
   rw[abp]at hj;rw[abo];exact cq _ d hj
  .exact h.elim
 .exact h.elim
theorem Ee(hM:au U m w)(hE:bi U w aX a.tmps){t:TypeId}{x i:Operand}{x' i':X}(hu:P.underlying t=some .string)(hx:bm x=some x')(hi:bm i=some i')(h:step P (.BO x' i') aX m K):dh P (do pure (Next.value (<-Instr.index t (a.eval x) (a.eval i)))) U m w K:=by
 have hd:=aR hE hx;have DO:=aR hE hi;simp only[step]at h;generalize a.eval x=v at hd|-;generalize a.eval i=vi at DO|-;generalize x'.ev aX=c at hd h;generalize i'.ev aX=ci at DO h;split at h
 .rename_i kd n;obtain rfl:=o6 DO;split at h
  .rename_i s;obtain⟨rfl,_⟩:=bJ hd;obtain⟨b,hg,hK⟩:=aZ.1 h;obtain⟨k,rfl,hk⟩:=yy hg;have aD:k<s.size:=by have:=(I4.1 hk).1;simpa using this
   have hs:s[k]? =some b:=by
    rw[uX (by simpa using aD)]at hk
    simp at hk;rw[getElem?_pos s k aD];simp[<-hk];rfl
   refine dh.pure hM (v:= .int .u8 b.toNat) ?_ hK (cy rfl);simp[Instr.index,asIntOf,run_underlying hu,hs]
  .exact h.elim
 .exact h.elim
theorem yz(hM:au U m w)(hE:bi U w aX a.tmps){op:BinOp}{t:TypeId}{x y:Operand}{x' y':X}(hx:bm x=some x')(hy:bm y=some y')(h:step P (.aJ op x' y') aX m K):dh P (do let v<-(do eqGuard op t x y (a.eval x) (a.eval y);binOp op t (a.eval x) (a.eval y));pure (Next.value v)) U m w K:=by
 have hd:=aR hE hx;have pG:=aR hE hy;simp only[step]at h;generalize a.eval x=v at hd|-;generalize a.eval y=u at pG|-;generalize x'.ev aX=c at hd h;generalize y'.ev aX=d at pG h;split at h
 .split at h
  .obtain⟨r,hr,hK⟩:=aZ.1 h;obtain⟨rfl,hp⟩:=bJ hd (λe=>by subst e;simp[HV]at hr)
   obtain⟨rfl,hq⟩:=bJ pG (λe=>by subst e;cases v<;>simp[HV]at hr)
   obtain⟨h1,h2⟩:=D9 (P:=P) (w:=w) hr (t:=t);refine dh.pure hM (v:=r) ?_ hK (cy h2);have hg:(eqGuard op t x y v u).run P w= .ok () w:=ue hp (by rintro rfl;cases u<;>simp[HV]at hr)
   simp only[Sem.run_bind,hg,Result.andThen_ok,h1,Sem.run_pure]
  .exact h.elim
 .exact h.elim
theorem yA(hM:au U m w)(hE:bi U w aX a.tmps){neg:Bool}{t:TypeId}{x y:Operand}{x' y':X}(ht:P.underlying t=some .bool)(hx:bm x=some x')(hy:bm y=some y')(h:step P (.beq neg x' y') aX m K):dh P (do let v<-(do eqGuard (if neg then .neq else .eql) t x y (a.eval x) (a.eval y);binOp (if neg then .neq else .eql) t (a.eval x) (a.eval y));pure (Next.value v)) U m w K:=by
 have hd:=aR hE hx;have pG:=aR hE hy;simp only[step]at h;generalize a.eval x=v at hd|-;generalize a.eval y=u at pG|-;generalize x'.ev aX=c at hd h;generalize y'.ev aX=d at pG h;split at h
 .split at h
  .obtain⟨rfl,hp⟩:=bJ hd;obtain⟨rfl,hq⟩:=bJ pG;refine dh.pure hM (v:=_) ?_ h (cy rfl);rw[Sem.run_bind,Sem.run_bind,ue hp aC];simp only[Result.andThen_ok,OP ht,Sem.run_pure]<;>rfl
  .exact h.elim
 .exact h.elim
theorem KT(hM:au U m w)(hE:bi U w aX a.tmps){op:UnOp}{x:Operand}{x':X}(hx:bm x=some x')(h:step P (.un op x') aX m K):dh P (do pure (Next.value (<-Op.unary op (a.eval x)))) U m w K:=by
 have hd:=aR hE hx;simp only[step]at h;generalize a.eval x=v at hd|-;generalize x'.ev aX=c at hd h;split at h
 .obtain⟨r,hr,hK⟩:=aZ.1 h;obtain⟨rfl,hp⟩:=bJ hd (λe=>by subst e;simp[XI]at hr)
  obtain⟨h1,h2⟩:=H0 (P:=P) (w:=w) hr;exact dh.pure hM (v:=r) (by rw[Sem.run_bind,h1];rfl) hK (cy h2)
 .exact h.elim
theorem Ef(hM:au U m w)(hE:bi U w aX a.tmps){s d:TypeId}{k0 k:IntKind}{x:Operand}{x':X}(hs:P.underlying s=some (.int k0))(hk:P.underlying d=some (.int k))(hx:bm x=some x')(h:step P (.conv k x') aX m K):dh P (do pure (Next.value (<-convert s d (a.eval x)))) U m w K:=by
 have hd:=aR hE hx;simp only[step]at h;generalize a.eval x=v at hd|-;generalize x'.ev aX=c at hd h;split at h
 .obtain rfl:=o6 hd;refine dh.pure hM (v:=_) ?_ h (cy rfl);simp[convert,run_underlying hs,run_underlying hk,Conv.intToInt]
 .exact h.elim
theorem H5(hM:au U m w)(hE:bi U w aX a.tmps){s d:TypeId}{x:Operand}{x':X}(hs:P.underlying s=some .string)(hk:P.underlying d=some .string)(hx:bm x=some x')(h:step P (.UL x') aX m K):dh P (do pure (Next.value (<-convert s d (a.eval x)))) U m w K:=by
 have hd:=aR hE hx;simp only[step]at h;generalize a.eval x=v at hd|-;generalize x'.ev aX=c at hd h;split at h
 .obtain⟨rfl,hp⟩:=bJ hd;refine dh.pure hM (v:=_) ?_ h (cy rfl);simp[convert,run_underlying hs,run_underlying hk]
 .exact h.elim
theorem sS(hE:bi U w aX a.tmps):∀{xs:List Operand}{GF:List X},uc xs=some GF->(Gt aX GF).length=xs.length/\
  ∀(i:Nat)c,(Gt aX GF)[i]? =some c->∃v,(xs.map a.eval)[i]? =some v/\bZ U w c v
 | [],GF,h=>by simp[uc]at h;subst h;simp[Gt]
 |x::r,GF,h=>by
  simp only[uc,RX,N0]at h;obtain⟨x',hx,r',hr,h⟩:=h;simp at h;subst h;obtain⟨h1,h2⟩:=sS hE hr;refine⟨by simp[Gt,h1],λi c hi=>?_⟩
  cases i with
  |zero=>simp[Gt]at hi;subst hi;exact⟨_,aC,aR hE hx⟩
  |succ i=>simpa using h2 i c (by simpa[Gt]using hi)
theorem ui:∀{cs:List CV}{jW:List Nat},vp cs=some jW->cs=jW.map λid=>CV.rv (.one (.ptr id 0))
 | [],jW,h=>by simp[vp]at h;subst h;rfl
 |c::r,jW,h=>by
  unfold vp at h;split at h
  .rename_i h1;simp at h1
  .rename_i id r' h1;simp only[List.cons.injEq]at h1;obtain⟨rfl,rfl⟩:=h1;split at h
   .rename_i l hl;simp at h;subst h;rw[ui hl];rfl
   .cases h
  .cases h
theorem vI:∀jW:List Nat,u6 jW=jW.map λid=>CV.rv (.one (.ptr id 0))
 | []=>rfl
 |id::r=>by simp[u6,vI r]
theorem KU(hM:au U m w)(hE:bi U w aX a.tmps){f:Nat}{xs:Array Operand}{GF:List X}(hx:uc xs.toList=some GF)(h:step P (.fn f GF) aX m K):dh P (do pure (Next.value (<-Instr.makeFunc (.func f) ((#[]:Array Operand).map a.eval) (xs.map a.eval)))) U m w K:=by
 simp only[step]at h;obtain⟨jW,hi,hK⟩:=aZ.1 h;obtain⟨h1,h2⟩:=sS hE hx;rw[ui hi]at h1 h2;refine dh.pure hM (v:= .func (.func f) #[] (xs.map a.eval)) (by simp[Instr.makeFunc]) hK ⟨λid hid=>?_,?_⟩
 .obtain⟨k,hk,rfl⟩:=acA hid;obtain⟨v,_,hd⟩:=h2 k _ (by rw[RA,uX hk];rfl)
  exact hd.1
 .congr 1;apply abV;rw[Array.toList_map];apply abF;intro k;simp only[ML]at h1;rcases aad k jW.length with hk|hk
  .obtain⟨v,hv,hd⟩:=h2 k _ (by rw[RA,uX hk];rfl)
   rw[hv,hd.2];simp[uX hk]
  .rw[aaZ (by simp;rw[<-Array.length_toList,<-h1];exact hk),aaZ (by simpa using hk)]
theorem H6(hM:au U m w)(hE:bi U w aX a.tmps){i:Nat}{x:Operand}{x':X}(hx:bm x=some x')(h:step P (.ext x' i) aX m K):dh P (do pure (Next.value (<-Instr.extract (a.eval x) i))) U m w K:=by
 have hd:=aR hE hx;simp only[step]at h;generalize a.eval x=v at hd|-;generalize x'.ev aX=c at hd h;split at h
 .obtain⟨r,hr,hK⟩:=aZ.1 h;rw[aT]at hr;obtain⟨vs,rfl,hl,hc⟩:=hd;obtain⟨u,hu,ct⟩:=hc i r hr;refine dh.pure hM (v:=u) ?_ hK ct;simp[Instr.extract,hu]
 .exact h.elim
theorem sU(hM:au U m w)(hE:bi U w aX a.tmps){t ty:TypeId}{x:Operand}{x':X}{k:Nat}(hu:(k=0/\P.underlying t=some .string)\/(k=1/\∃e,P.underlying t=some (.slice e))\/(k=2/\∃kt e,P.underlying t=some (.map kt e)))(hx:bm x=some x')(h:step P (.len k x') aX m K):dh P (do pure (Next.value (<-Builtin.len_ #[t] ty #[a.eval x]))) U m w K:=by
 have hd:=aR hE hx;generalize a.eval x=v at hd|-;rcases hu with⟨rfl,hu⟩|⟨rfl,e,hu⟩|⟨rfl,kt,e,hu⟩
 .simp only[step]at h;generalize x'.ev aX=c at hd h;split at h
  .obtain⟨rfl,hp⟩:=bJ hd;refine dh.pure hM (v:=_) ?_ h (cy rfl);simp[Builtin.len_,run_underlying hu,goInt]
  .exact h.elim
 .simp only[step]at h;generalize x'.ev aX=c at hd h;split at h
  .rename_i esz elems;refine dh.pure hM (v:= .int .i64 (elems.length:Int)) ?_ h (cy rfl);cases hd<;>simp[Builtin.len_,run_underlying hu,goInt]
  .rename_i id esz lo hi;obtain⟨bk,hb,h⟩:=aZ.1 h;rw[aT]at hb;cases bk<;>simp only at h
   rename_i n8 elems;obtain⟨h2,h3,h4,h5,BC⟩:=hM.bk id _ hb;obtain⟨aD,d1,d2,d3,d4,ad,rfl,uN⟩:=hd;rw[iB,h2]at h;refine dh.pure hM (v:=_) ?_ h (cy rfl);simp[Builtin.len_,run_underlying hu,goInt]
  .obtain⟨ad,rfl⟩:=hd;refine dh.pure hM (v:=_) ?_ h (cy rfl);simp[Builtin.len_,run_underlying hu,goInt]
  .exact h.elim
 .simp only[step]at h;generalize x'.ev aX=c at hd h;split at h
  .rename_i id;obtain⟨bk,hb,h⟩:=aZ.1 h;rw[aT]at hb;cases bk<;>simp only at h
   rename_i es;obtain⟨bx,clock,d6,dn,uO⟩:=hM.bk id _ hb;obtain⟨aD,rfl⟩:=hd;refine dh.pure hM (v:= .int .i64 (es.length:Int)) ?_ h (cy rfl);simp[Builtin.len_,run_underlying hu,goInt,getObj,Sem.run,d6,dn]
  .exact h.elim
theorem Eg(hM:au U m w)(hE:bi U w aX a.tmps){x:Operand}{x':X}{o:Oper}(ho:o.op= .nilCheck x)(hx:bm x=some x')(h:step P (.aP x') aX m K):dh P (execOp a.eval o) U m w K:=by
 have hd:=aR hE hx;simp only[step]at h;unfold execOp;rw[ho];simp only;generalize a.eval x=v at hd|-;generalize x'.ev aX=c at hd h;split at h
 .have Sc:=hd;obtain⟨aD,rfl⟩:=hd;exact dh.pure hM rfl h Sc
 .have Sc:=hd;obtain⟨aD,rfl⟩:=hd;exact dh.pure hM rfl h Sc
 .have Sc:=hd;obtain⟨b,off,rfl,_⟩:=hd;exact dh.pure hM rfl h Sc
 .exact h.elim
theorem Eh(hM:au U m w)(hE:bi U w aX a.tmps){c x y:Operand}{c' x' y':X}(hc:bm c=some c')(hx:bm x=some x')(hy:bm y=some y')(h:step P (.pick c' x' y') aX m K):dh P (do pure (Next.value (if<-asBool (a.eval c)then a.eval x else a.eval y))) U m w K:=by
 have hd:=aR hE hc;simp only[step]at h;generalize a.eval c=v at hd|-;generalize c'.ev aX=cc at hd h;split at h
 .obtain⟨rfl,hp⟩:=bJ hd;rcases cn.1 h with⟨rfl,h⟩|⟨rfl,h⟩
  .exact dh.pure hM (v:=a.eval x) (by simp[asBool]) h (aR hE hx)
  .exact dh.pure hM (v:=a.eval y) (by simp[asBool]) h (aR hE hy)
 .exact h.elim
theorem KV{α:Type}{n i:Nat}{x y:α}(h:(gw n x)[i]? =some y):y=x/\i<n:=by
 rw[fH,acJ]at h;split at h
 .exact⟨by simpa using h.symm,by assumption⟩
 .cases h
def zZ(U:bF)(w:World)(esz:Nat)(rows:List (List CC))(cells:Array Value):Prop:=
 cells.size=rows.length*esz/\(∀cs,cs∈rows->cs.length=esz)/\
  ∀(i:Nat)cs(j:Nat)c,rows[i]? =some cs->cs[j]? =some c->∃u,cells[i*esz+j]? =some u/\bh U w .none c u
theorem uj(hE:bi U w aX a.tmps){esz:Nat}:
  ∀{ps:List (Nat×Operand)}{nY:List (Nat×X)}{rows mD:List (List CC)}{cells:Array Value},kJ ps=some nY->ub aX esz rows nY=some mD->zZ U w esz rows cells->
   ∃fc,Instr.fill (λi=>some (i*esz,esz)) cells (ps.map λp=>(p.1,a.eval p.2))=some fc/\zZ U w esz mD fc/\mD.length=rows.length
 | [],nY,z,z',cells,hp,hf,hz=>by simp[kJ]at hp;subst hp;simp[ub]at hf;subst hf;exact⟨cells,rfl,hz,rfl⟩
 |(i,x)::r,nY,z,z',cells,hp,hf,hz=>by
  simp only[kJ,RX,N0]at hp;obtain⟨x',hx,r',hr,hp⟩:=hp;simp at hp;subst hp;simp only[ub]at hf;split at hf
  .rename_i cs eB;split at hf
   .rename_i hlen;simp only[aab,abL]at hlen;have hl:cs.length=esz:=aai hlen.1;obtain⟨h1,h2,_⟩:=jC eB (aR hE hx);have dn:i*esz+esz<=cells.size:=by rw[hz.1];have:(i+1)*esz<=z.length*esz:=abh _ hlen.2;rwa [abr,abZ]at this
    have Yy:=sR (i*esz) (a.eval x).cells.toList 0 cells;simp only[acm]at Yy;have he:(a.eval x).cells.zipIdx.foldl (λcs(p:Value×Nat)=>cs.setIfInBounds (i*esz+p.2) p.1) cells=((a.eval x).cells.toList.zipIdx 0).foldl (λ(cs:Array Value)(p:Value×Nat)=>cs.setIfInBounds (i*esz+p.2) p.1) cells:=by rw[<-Array.foldl_toList];simp
    have B2:Instr.fill (λi=>some (i*esz,esz)) cells ((i,a.eval x)::r.map λp=>(p.1,a.eval p.2))=
      Instr.fill (λi=>some (i*esz,esz)) ((a.eval x).cells.zipIdx.foldl (λcs(p:Value×Nat)=>cs.setIfInBounds (i*esz+p.2) p.1) cells) (r.map λp=>(p.1,a.eval p.2)):=by
     rw[Instr.fill];simp only;rw[if_neg (by rw[h1,hl];simp;omega)]
    have U0:zZ U w esz (aW z i cs) ((a.eval x).cells.zipIdx.foldl (λcs(p:Value×Nat)=>cs.setIfInBounds (i*esz+p.2) p.1) cells):=by
     rw[he,a8];refine⟨by rw[Yy.1,hz.1];simp,λeR KX=>?_,λi' eR j c ew hj=>?_⟩
     .rcases aa2 KX with hm|rfl
      .exact hz.2.1 eR hm
      .exact hl
     .have uk:(a.eval x).cells.toList.length=esz:=by simp[h1,hl]
      rw[Yy.2 (by rw[uk];exact dn),uk]
      by_cases Ok:i=i'
      .subst Ok;rw[Tr hlen.2]at ew;simp only[aam]at ew;subst ew;have lA:j<esz:=by rw[<-hl];exact(I4.1 hj).1
       rw[if_pos om];obtain⟨u,hu,ct⟩:=h2 j c hj;exact⟨u,by rw[show i*esz+j-i*esz=j by omega];simpa using hu,ct⟩
      .rw[WE Ok]at ew;have lA:j<esz:=by rw[<-hz.2.1 _ (RD ew)];exact(I4.1 hj).1
       rw[if_neg]
       .exact hz.2.2 i' eR j c ew hj
       .rcases Nat.lt_or_gt_of_ne Ok with od|od
        .have:(i+1)*esz<=i'*esz:=abh _ od;rw[abr,abZ]at this;omega
        .have:(i'+1)*esz<=i*esz:=abh _ od;rw[abr,abZ]at this;omega
    obtain⟨fc,h3,h4,h5⟩:=uj hE hr hf U0;exact⟨fc,by rw[aa9,B2,h3],h4,by rw[h5,a8];simp⟩
   .cases hf
  .cases hf
theorem Ei(zero:Array Value)(n:Nat)(k:Nat)(hk:k<n)(hz:0<zero.size):((Array.range n).map (zero[· %zero.size]!))[k]? =zero[k%zero.size]? :=by have:k%zero.size<zero.size:=Nat.mod_lt _ hz;simp[hk,this]
theorem H7(hM:au U m w)(hE:bi U w aX a.tmps){t e:TypeId}{n:Nat}{ps:Array (Nat×Operand)}{z:List CC}{nY:List (Nat×X)}(hu:P.underlying t=some (.slice e))(hz:dW P e=some z)(hs:eM P e=some z.length)(cH:0<z.length)(hn:n*z.length<=2^24)(hp:kJ ps.toList=some nY)(h:step P (.nC z.length z n nY) aX m K):dh P (do pure (Next.value (<-Instr.buildSlice t n (ps.map λ(i,x)=>(i,a.eval x))))) U m w K:=by
 simp only[step]at h;obtain⟨rows,hf,hK⟩:=aZ.1 h;rw[eY,gx,bX]at hK;obtain⟨zv,QS,OR⟩:=Ea (U:=U) (w:=w) hz;have Yz:zv.cells.size=z.length:=OR.1;have h0:zZ U w z.length (gw n z) ((Array.range (n*z.length)).map (zv.cells[· %zv.cells.size]!)):=by
  refine⟨by simp[fH],λcs eB=>?_,λi cs j c hi hj=>?_⟩
  .rw[fH]at eB;rw[ab9 eB]
  .obtain⟨rfl,iS⟩:=KV hi;have lA:=(I4.1 hj).1;have aD:i*cs.length+j<n*cs.length:=by have:(i+1)*cs.length<=n*cs.length:=abh _ iS;rw[abr,abZ]at this;omega
   rw[Ei _ _ _ aD om,Yz,acH i,adl,adf lA];exact OR.2 j c hj
 obtain⟨cells,h1,h2,h3⟩:=uj hE hp hf h0;have hlen:rows.length=n:=by rw[h3,fH];simp
 obtain⟨U',g1,g2,g3⟩:=KQ hM (ty:=e) (cap:=n) (cells:=cells) (elems:=rows) (w':=w.alloc (.cells cells e)) (.inl rfl) (by rw[h2.1,hlen];exact Ts _) om (by unfold maxLen;have:n*1<=n*z.length:=Nat.mul_le_mul_left _ cH;omega) h2.2.1 h2.2.2
 rw[hlen]at g3;refine⟨_,_,_,_,_,U',?_,.inl rfl,hK,g1,g3,g2⟩;have B2:Instr.fill (λi=>some (i*z.length,z.length)) ((Array.range (n*z.length)).map (zv.cells[· %zv.cells.size]!)) (ps.map λ(i,x)=>(i,a.eval x)).toList=some cells:=by simpa using h1
 rcases abu n with GD|GD
 .subst GD;have e0:∀zz:Array Value,((Array.range (0*z.length)).map (zz[· %zz.size]!))= #[]:=by intro zz;simp
  rw[e0]at B2;simp only[Instr.buildSlice,Sem.run_bind,run_underlying hu,Result.andThen_ok,fp hs];rw[if_neg om,if_pos aC];simp only[Sem.run_pure,Result.andThen_ok,e0,B2];simp[newRow]
 .have dt:n*z.length≠0:=Nat.ne_of_gt (Nat.mul_pos GD cH);simp only[Instr.buildSlice,Sem.run_bind,run_underlying hu,Result.andThen_ok,fp hs];rw[if_neg om,if_neg dt];simp only[Sem.run_bind,QS,Result.andThen_ok,Sem.run_pure,B2];simp[newRow]
end
end Go.AM
