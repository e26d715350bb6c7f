/- Part 2 of 16. -/
import Derived.Test.YtodckkkbiidffaaGreatDoorH01
import Derived.Laws.BytesArg
import Derived.RangeFuncLeaves
import Derived.RangeFuncRecord
set_option linter.unusedVariables false
set_option linter.unusedSimpArgs false
set_option maxRecDepth 100000
set_option maxHeartbeats 0
namespace Go.AM
inductive X where
 |t (n:Nat)
 |c (v:CV)
inductive Kd where
 |b
 |i
 |s
inductive Ky where
 |i (k:IntKind)
 |s
 |b
 |a2 (k:IntKind)
inductive I where
 |aI (x:X)
 |pick (c a b:X)
 |alloc (z:List CC)
 |box (x:X)
 |build (z:List CC) (parts:List (Nat×Nat×X))
 |nw (esz:Nat) (z:List CC) (len:Nat) (parts:List (Nat×X))
 |load (agg:Bool) (n:Nat) (a:X)
 |store (n:Nat) (a x:X)
 |bU (off:Nat) (a:X)
 |Vh (agg:Bool) (off n:Nat) (a:X)
 |cr (esz:Nat) (a i:X)
 |B7 (len esz:Nat) (a i:X)
 |B8 (a i:X)
 |aJ (op:BinOp) (x y:X)
 |Li (neg:Bool) (ks:List Kd) (x y:X)
 |beq (neg:Bool) (x y:X)
 |un (op:UnOp) (x:X)
 |conv (k:IntKind) (x:X)
 |Vi (x:X)
 |Vj (x:X)
 |UJ (x:X)
 |nT (esz:Nat) (x:X) (lo hi mx:Option X)
 |Ix (x:X) (lo hi:Option X)
 |fn (f:Nat) (eD:List X)
 |len (k:Nat) (x:X)
 |ov (esz bytes:Nat) (dst src:X)
 |call (f:X) (args:List X)
 |ext (x:X) (i:Nat)
 |aO (x:X)
 |yj (neg:Bool) (x:X)
 |ut
 |pu (esz bytes:Nat) (z:List CC) (n c:X)
 |Ah (z:RV) (kk:Ky) (m k:X) (ok:Bool)
 |vI (kk:Ky) (m k v:X)
 |jU (mx:Bool) (xs:List X)
 |Lj (kk:Ky) (m k:X)
 |copy (esz:Nat) (dst src:X)
 |UK (esz:Nat) (z:List CC) (x:X)
 |Ll (agg:Bool) (n sz:Nat) (x i:X)
 |Yf (x:X)
 |Vk (x:X)
 |sY (x:X)
 |Vl (x:X)
structure LO where
 dst:Option Nat
 BU:I
 guard:Option (Nat×Bool)
inductive nt where
 |nil
 |cons (i:Nat) (Lm:Option (List Nat)) (r:nt)
 |vJ (a b:nt)
inductive LC where
 |skip
 |ai (ops:List LO)
 |bR (bS:List LO) (qx:List nt)
 |seq (a b:LC)
 |cond (x:X) (a b:LC)
 |block (id:Nat) (b:LC)
 |loop (b:LC)
 |exit (id:Nat)
 |ret
 |cU (a:LC)
 |yk (x:X) (p:Nat) (a b:LC)
def LC.er:LC->LC
 | .seq a b=>.seq a.er b.er
 | .cond x a b=>.cond x a.er b.er
 | .block id b=>.block id b.er
 | .loop b=>.loop b.er
 | .cU a=>a.er
 | .yk x p a b=>.yk x p a.er b.er
 | .skip=>.skip
 | .ai ops=>.ai ops
 | .bR a b=>.bR a b
 | .exit id=>.exit id
 | .ret=>.ret
def LC.rn:LC->Bool
 | .seq a b=>a.rn&&b.rn
 | .cond _ a b=>a.rn&&b.rn
 | .block _ b=>b.rn
 | .loop b=>b.rn
 | .cU a=>a.rn
 | .yk _ _ _ _=>false
 |_=>true
inductive Rv where
 |tmp (t:Nat)
 |cell (agg:Bool) (n:Nat) (t:Nat)
structure LF where
 n:Nat
 lP:List Rv
 code:LC
def LF.er(f:LF):LF:=⟨f.n,f.lP,f.code.er⟩
def cD{α:Type}:List α->Nat->Option α
 | [],_=>none
 |x::_,0=>some x
 |_::r,k+1=>cD r k
def aW{α:Type}:List α->Nat->α->List α
 | [],_,_=>[]
 |_::r,0,y=>y::r
 |x::r,k+1,y=>x::aW r k y
def i9{α:Type}{β:Sort _}:List α->(List α->β)->β
 | [],k=>k []
 |x::r,k=>i9 r λr'=>k (x::r')
def kp:List CV->Nat->CV
 | [],_=>.aF
 |x::_,0=>x
 |_::r,k+1=>kp r k
def X.ev(e:List CV):X->CV
 | .t n=>kp e n
 | .c v=>v
def ok{α:Type}(o:Option α)(K:α->Prop):Prop:= @Option.rec α (λ_=>Prop) False K o
def bB(t:Bool)(A B:Prop):Prop:= @Bool.rec (λ_=>Prop) B A t
def ja:List CC->Nat->Nat->Option (List CC)
 |_,0,0=>some []
 | [],_,_=>none
 |c::cs,0,n+1=>match ja cs 0 n with|some l=>some (c::l)|none=>none
 |_::cs,j+1,n=>ja cs j n
def gJ:List CC->Nat->List CC->Option (List CC)
 |cs,0,[]=>some cs
 | [],_,_=>none
 |_::cs,0,x::xs=>match gJ cs 0 xs with|some l=>some (x::l)|none=>none
 |c::cs,j+1,xs=>match gJ cs j xs with|some l=>some (c::l)|none=>none
def vK:List Dt->Nat->Option (List CC)
 |_,0=>some []
 | [],_+1=>none
 |d::ds,n+1=>match vK ds n with|some l=>some (.ah d::l)|none=>none
def cellsOf:CV->Option (List CC)
 | .rv (.one c)=>some [c]
 | .rv (.agg cs)=>some cs
 |_=>none
def B9:CV->Option RV
 | .rv r=>some r
 |_=>none
def Ln(agg:Bool)(l:List CC):Option CV:=
 match agg,l with
 |true,l=>some (.rv (.agg l))
 |false,[c]=>some (.rv (.one c))
 |false,_=>none
def jc:List CC->Bool
 | []=>true
 | .d5 _ _::_=>false
 |_::r=>jc r
def dC{α:Type}(l:List α):Int->Option α
 | .ofNat k=>cD l k
 | .negSucc _=>none
def dQ(n:Int)(len:Nat):Option Nat:=
 match n with
 | .ofNat k=>match Nat.blt k len with|true=>some k|false=>none
 | .negSucc _=>none
def iB(a b:Nat):Nat:=match a with|0=>b|a=>a+b
def lenOf(elems:Nat)(lo:Nat)(hi:Option Nat):Nat:=
 match lo,hi with
 |0,none=>elems
 |0,some h=>h
 |lo,none=>elems-lo
 |lo,some h=>h-lo
def bV{α:Type}(l:List α)(lo:Nat)(hi:Option Nat):List α:=
 match lo,hi with
 |0,none=>l
 |0,some h=>l.take h
 |lo,none=>l.drop lo
 |lo,some h=>(l.take h).drop lo
def ow(e:List CV):List CC->List (Nat×Nat×X)->Option (List CC)
 |z,[]=>some z
 |z,(off,sz,x)::r=>match cellsOf (x.ev e)with
  |some cs=>match Nat.beq cs.length sz with
   |true=>match gJ z off cs with
    |some z'=>ow e z' r
    |none=>none
   |false=>none
  |none=>none
def uu(e:List CV)(esz:Nat):List (List CC)->List (Nat×X)->Option (List (List CC))
 |z,[]=>some z
 |z,(i,x)::r=>match cellsOf (x.ev e)with
  |some cs=>match Nat.beq cs.length esz&&Nat.blt i z.length with
   |true=>uu e esz (aW z i cs) r
   |false=>none
  |none=>none
def gm{α:Type}:Nat->α->List α
 |0,_=>[]
 |n+1,x=>x::gm n x
def GY(e:List CV):List X->List CV
 | []=>[]
 |x::r=>x.ev e::GY e r
def vL:List CV->Option (List Nat)
 | []=>some []
 | .rv (.one (.ptr id 0))::r=>match vL r with|some l=>some (id::l)|none=>none
 |_=>none
def vu:List Nat->List CV
 | []=>[]
 |id::r=>.rv (.one (.ptr id 0))::vu r
def gn{α:Type}:List α->List α->List α
 | [],l=>l
 |x::r,l=>x::gn r l
def vM{β:Sort _}(m0:Mem):Mem->List Nat->(Nat->β)->β
 | [],n::_,k=>k n
 |_::r,_::ls,k=>vM m0 r ls k
 |_,[],k=>k m0.length
def ny{β:Sort _}(m:Mem)(k:Nat->β):β:=
 vM m m [0,1,2,3,4,5,6,7,8,9,10,11,12,13,14,15,16,17,18,19,20,21,22,23,24,25,26,27,28,29,30,31,32,33,34,35,36,37,38,39,40,41,42,43,44,45,46,47,48,49,50,51,52,53,54,55,56,57,58,59,60,61,62,63] k
def an(k:IntKind)(n:Int):CV:= .rv (.one (.ah (.val (.int k n))))
def aE(b:Bool):CV:= .rv (.one (.ah (.val (.bool b))))
def eU(s:ByteArray):CV:= .rv (.one (.ah (.val (.string s))))
def Iy(op:BinOp):Value->Value->Option Value
 | .int k a,.int k' b=>
  match op with
  | .shl=>match decide (b<0)with|false=>some (.int k (k.wrap (a*2^(min b.toNat k.bits))))|true=>none
  | .shr=>match decide (b<0)with|false=>some (.int k (a.fdiv (2^(min b.toNat k.bits))))|true=>none
  |op=>match decide (k=k')with
   |false=>none
   |true=>match op with
    | .add=>some (.int k (k.wrap (a+b)))
    | .sub=>some (.int k (k.wrap (a-b)))
    | .mul=>some (.int k (k.wrap (a*b)))
    | .quo=>match decide (b=0)with|false=>some (.int k (k.wrap (a.tdiv b)))|true=>none
    | .rem=>match decide (b=0)with|false=>some (.int k (a.tmod b))|true=>none
    | .and=>some (.int k (k.wrap (BitVec.ofInt k.bits a&&&BitVec.ofInt k.bits b).toNat))
    | .or=>some (.int k (k.wrap (BitVec.ofInt k.bits a|||BitVec.ofInt k.bits b).toNat))
    | .xor=>some (.int k (k.wrap (BitVec.ofInt k.bits a^^^BitVec.ofInt k.bits b).toNat))
    | .andNot=>some (.int k (k.wrap (BitVec.ofInt k.bits a&&& ~~~ BitVec.ofInt k.bits b).toNat))
    | .eql=>some (.bool (a==b))
    | .neq=>some (.bool (a !=b))
    | .lss=>some (.bool (decide (a<b)))
    | .leq=>some (.bool (decide (a<=b)))
    | .gtr=>some (.bool (decide (a>b)))
    | .geq=>some (.bool (decide (a>=b)))
    |_=>none
 | .string a,.string b=>
  match op with
  | .add=>match decide (((a.size+b.size:Nat):Int)>IntKind.i64.max)with|false=>some (.string (a++b))|true=>none
  | .eql=>some (.bool (a.toList==b.toList))
  | .neq=>some (.bool (!(a.toList==b.toList)))
  | .lss=>some (.bool (Op.bytesLess a.toList b.toList))
  | .leq=>some (.bool (Op.bytesLess a.toList b.toList||a.toList==b.toList))
  | .gtr=>some (.bool (!(Op.bytesLess a.toList b.toList||a.toList==b.toList)))
  | .geq=>some (.bool (!(Op.bytesLess a.toList b.toList)))
  |_=>none
 |_,_=>none
def Yg(op:UnOp):Value->Option Value
 | .bool b=>match op with| .not=>some (.bool (!b))|_=>none
 | .int k n=>match op with| .neg=>some (.int k (k.wrap (0-n)))|_=>none
 |_=>none
def O4:Kd->Value->Value->Option Bool
 | .i,.int k a,.int k' b=>match decide (k=k')with|true=>some (a==b)|false=>none
 | .s,.string a,.string b=>some (a.toList==b.toList)
 | .b,.bool a,.bool b=>some (a==b)
 |_,_,_=>none
def kq:List Kd->List CC->List CC->Option Bool
 | [],[],[]=>some true
 |k::ks,.ah (.val a)::r,.ah (.val b)::s=>match O4 k a b,kq ks r s with
  |some x,some y=>some (x&&y)
  |_,_=>none
 |_,_,_=>none
def ap(P:Program)(f:Nat)(args:List CV)(m:Mem)(K:CV->Mem->Prop):Prop:=
 (∃fn,P.funcs[f]? =some fn/\fn.body.isSome=true/\(fn.name== "runtime.NumGoroutine")=false)/\
 ∀(ρ:bG)(w:World)(vs:List Value),ax ρ m w->vs.length=args.length->(∀(i:Nat)c,args[i]? =some c->∃v,vs[i]? =some v/\bZ ρ w c v)->
  Calls P f vs.toArray w λe w'=>∃v r m' U',e= .returned v/\K r m'/\ax U' m' w'/\bZ U' w' r v/\Ext ρ m w U' m' w'
def fV{β:Sort _}(v:CV)(k:CV->β):β:=
 match v with
 | .aF=>k .aF
 | .undef=>k .undef
 | .rv r=>match r with
  | .one c=>k (.rv (.one c))
  | .agg cs=>i9 cs λcs=>k (.rv (.agg cs))
 | .bz rs=>k (.bz rs)
def Vm:List Value->List Value->Option Bool
 | [.int k x,.int l y],[.int k' x',.int l' y']=>match decide (k=k')&&decide (l=l')with|true=>some (x==x'&&y==y')|false=>none
 |_,_=>none
def td:List CC->Option Value
 | [.ah (.val (.int k x)),.ah (.val (.int l y))]=>some (.agg #[.int k x,.int l y])
 |_=>none
def gS(a b:Value):Option Bool:=
 match a,b with
 | .int k x,.int k' y=>match decide (k=k')with|true=>some (x==y)|false=>none
 | .string x,.string y=>some (x==y)
 | .bool x,.bool y=>some (x==y)
 | .agg x,.agg y=>Vm x.toList y.toList
 |_,_=>none
def rq(k:Value):List ME->Option (Option RV)
 | []=>some none
 |e::es=>match gS k e.key with
  |some true=>some (some e.val)
  |some false=>rq k es
  |none=>none
def Ai(k:Value)(v:RV):List ME->Option (List ME)
 | []=>some [⟨k,v⟩]
 |e::es=>match gS k e.key with
  |some true=>some (⟨k,v⟩::es)
  |some false=>match Ai k v es with|some l=>some (e::l)|none=>none
  |none=>none
def iH(k:Value):List MO->Nat->Option (Option (Nat×MV))
 | [],_=>some none
 |e::es,n=>match gS k e.key with
  |some true=>some (some (n,e.val))
  |some false=>iH k es (n+1)
  |none=>none
def mE(k:Value)(v:MV):List MO->Option (List MO)
 | []=>some [⟨k,v⟩]
 |e::es=>match gS k e.key with
  |some true=>some (⟨k,v⟩::es)
  |some false=>match mE k v es with|some l=>some (e::l)|none=>none
  |none=>none
def vN(e:List CV)(m:Mem)(agg:Bool)(n:Nat)(a:CV)(K:CV->Prop):Prop:=
 match a with
 | .rv (.one (.ptr id j))=>ok (cD m id) λbk=>match bk with
  | .var cs=>ok (ja cs j n) λl=>ok (Ln agg l) K
  |_=>False
 | .rv (.one (.nv id esz i j))=>ok (cD m id) λbk=>match bk with
  | .row oy elems=>bB (Nat.beq esz oy) (ok (cD elems i) λcells=>ok (ja cells j n) λl=>bB (jc l) (ok (Ln agg l) K) False) False
  |_=>False
 | .rv (.one (.rk ds))=>ok (vK ds n) λl=>ok (Ln agg l) K
 |_=>False
def fu(m:Mem)(esz:Nat)(v:CV):Option (List (List CC)):=
 match v with
 | .rv (.one (.ah (.sl e elems)))=>match Nat.beq e esz with
  |true=>some (elems.map λds=>ds.map .ah)
  |false=>none
 | .rv (.one (.row id e lo hi))=>match cD m id with
  |some (.row e2 rows)=>match Nat.beq e esz,Nat.beq e2 esz with
   |true,true=>some (bV rows lo hi)
   |_,_=>none
  |_=>none
 | .rv (.one .aK)=>some []
 |_=>none
def iZ(m:Mem)(v:CV):Mem:=
 match v with
 | .rv (.one (.row id _ _ _))=>aW m id .aR
 |_=>m
def vQ(v:CV):Bool:=
 match v with
 | .rv (.one (.row _ _ _ _))=>true
 | .rv (.one .aK)=>true
 |_=>false
def GZ(a b:CV):Bool:=
 match a,b with
 | .rv (.one (.row i _ _ _)),.rv (.one (.row j _ _ _))=>!(Nat.beq i j)
 |_,_=>true
def CC.jc:CC->Bool
 | .d5 _ _=>false
 |_=>true
def qy:List CC->Bool
 | []=>true
 |c::r=>c.jc&&qy r
def fw:List (List CC)->Bool
 | []=>true
 |c::r=>qy c&&fw r
def cT{α:Type}(l:List α)(h:Nat)(E:List α):List α:=l.take h++(E++l.drop (h+E.length))
def qz(hi:Option Nat)(n:Nat):Nat:=match hi with|some h=>h|none=>n
def qA(v:CV):Option Nat:=
 match v with
 | .rv (.one (.ah (.val (.int _ (.ofNat k)))))=>some k
 |_=>none
def kU(e:List CV)(o:Option X)(d:Nat):Option Nat:=
 match o with
 |none=>some d
 |some x=>qA (x.ev e)
def Yh(v:CV):Bool:=
 match v with
 | .rv (.one (.ah (.val (.int _ n))))=>decide (n=0)
 |_=>false
def Er(e:List CV)(o:Option X):Bool:=
 match o with
 |none=>false
 |some x=>Yh (x.ev e)
def Lo(v:CV):Bool:=
 match v with
 | .rv (.one (.ah (.sl _ _)))=>true
 | .rv (.one (.row _ _ _ _))=>true
 | .rv (.one .aK)=>true
 |_=>false
def vR:List (List CC)->Option (List Int)
 | []=>some []
 | [.ah (.val (.int .u8 n))]::r=>match vR r with|some l=>some (n::l)|none=>none
 |_=>none
def qB(s:ByteArray):List (List CC):=s.data.toList.map λb=>[.ah (.val (.int .u8 b.toNat))]
def G0(m:Mem)(v:CV):Option (List ME):=
 match v with
 | .rv (.one (.map id))=>match cD m id with|some (.mp es)=>some es|_=>none
 | .rv (.one (.ah (.val (.map none))))=>some []
 |_=>none
def SG(m:Mem)(v:CV):Option (Nat×Nat×List MO×Option (List Nat×Nat)):=
 match v with
 | .rv (.one (.map id))=>match cD m id with|some (.mo esz es so)=>some (id,esz,es,so)|_=>none
 |_=>none
def ku:Ky->Value->Bool
 | .i k,.int k' _=>decide (k'=k)
 | .s,.string _=>true
 | .b,.bool _=>true
 | .a2 k,.agg x=>match x.toList with| [.int k1 _,.int k2 _]=>decide (k1=k)&&decide (k2=k)|_=>false
 |_,_=>false
def uv(okF:Bool)(z:RV)(o:Option RV):CV:=
 match okF,o with
 |false,none=>.rv z
 |false,some v=>.rv v
 |true,none=>.bz [z,.one (.ah (.val (.bool false)))]
 |true,some v=>.bz [v,.one (.ah (.val (.bool true)))]
def ru:List ME->Option (List (Value×Value))
 | []=>some []
 |⟨k,.one (.ah (.val v))⟩::r=>match cn k&&cn v with
  |true=>(ru r).map ((k,v):: ·)
  |false=>none
 |_=>none
def step(P:Program)(i:I)(e:List CV)(m:Mem)(K:CV->Mem->Prop):Prop:=
 match i with
 | .aI x=>K (x.ev e) m
 | .pick c a b=>match c.ev e with
  | .rv (.one (.ah (.val (.bool t))))=>bB t (K (a.ev e) m) (K (b.ev e) m)
  |_=>False
 | .alloc z=>ny m λn=>K (.rv (.one (.ptr n 0))) (gn m [.var z])
 | .box x=>ok (cellsOf (x.ev e)) λcs=>ny m λn=>K (.rv (.one (.ptr n 0))) (gn m [.var cs])
 | .build z ps=>ok (ow e z ps) λcs=>K (.rv (.agg cs)) m
 | .nw esz z len ps=>ok (uu e esz (gm len z) ps) λrows=>i9 rows λrows=>ny m λn=>K (.rv (.one (.row n esz 0 none))) (gn m [.row esz rows])
 | .load agg n a=>vN e m agg n (a.ev e) λv=>K v m
 | .store n a x=>ok (cellsOf (x.ev e)) λxs=>bB (Nat.beq xs.length n) (match a.ev e with
  | .rv (.one (.ptr id j))=>ok (cD m id) λbk=>match bk with
   | .var cs=>ok (gJ cs j xs) λe7=>K .undef (aW m id (.var e7))
   |_=>False
  | .rv (.one (.nv id esz i j))=>ok (cD m id) λbk=>match bk with
   | .row oy elems=>bB (Nat.beq esz oy) (ok (cD elems i) λcells=>bB (jc cells) (ok (gJ cells j xs) λfm=>K .undef (aW m id (.row oy (aW elems i fm)))) False) False
   |_=>False
  |_=>False) False
 | .bU off a=>match a.ev e with
  | .rv (.one (.ptr id j))=>K (.rv (.one (.ptr id (j+off)))) m
  | .rv (.one (.nv id esz i j))=>K (.rv (.one (.nv id esz i (j+off)))) m
  | .rv (.one (.rk ds))=>K (.rv (.one (.rk (ds.drop off)))) m
  |_=>False
 | .Vh agg off n a=>match a.ev e with
  | .rv (.agg cs)=>ok (ja cs off n) λl=>ok (Ln agg l) λv=>K v m
  |_=>False
 | .cr esz a i=>match i.ev e with
  | .rv (.one (.ah (.val (.int _ n))))=>match a.ev e with
   | .rv (.one (.ah (.sl oy elems)))=>bB (Nat.beq esz oy) (ok (dC elems n) λds=>K (.rv (.one (.rk ds))) m) False
   | .rv (.one (.row id oy lo hi))=>ok (cD m id) λbk=>match bk with
    | .row rx elems=>bB (Nat.beq esz oy) (bB (Nat.beq esz rx) (ok (dQ n (lenOf elems.length lo hi)) λk=>K (.rv (.one (.nv id esz (iB lo k) 0))) m) False) False
    |_=>False
   |_=>False
  |_=>False
 | .B7 len esz a i=>match i.ev e with
  | .rv (.one (.ah (.val (.int _ n))))=>match a.ev e with
   | .rv (.one (.ptr id j))=>ok (dQ n len) λk=>K (.rv (.one (.ptr id (j+k*esz)))) m
   | .rv (.one (.nv id s i' j))=>ok (dQ n len) λk=>K (.rv (.one (.nv id s i' (j+k*esz)))) m
   | .rv (.one (.rk ds))=>ok (dQ n len) λk=>K (.rv (.one (.rk (ds.drop (k*esz))))) m
   |_=>False
  |_=>False
 | .B8 a i=>match i.ev e with
  | .rv (.one (.ah (.val (.int _ n))))=>match a.ev e with
   | .rv (.one (.ah (.val (.string s))))=>ok (dC s.data.toList n) λb=>K (an .u8 b.toNat) m
   |_=>False
  |_=>False
 | .aJ op x y=>match x.ev e with
  | .rv (.one (.ah (.val a)))=>match y.ev e with
   | .rv (.one (.ah (.val b)))=>ok (Iy op a b) λv=>K (.rv (.one (.ah (.val v)))) m
   |_=>False
  |_=>False
 | .Li neg n x y=>match x.ev e with
  | .rv (.agg cs)=>match y.ev e with
   | .rv (.agg ds)=>ok (kq n cs ds) λb=>K (aE (match neg with|true=>!b|false=>b)) m
   |_=>False
  |_=>False
 | .beq neg x y=>match x.ev e with
  | .rv (.one (.ah (.val (.bool a))))=>match y.ev e with
   | .rv (.one (.ah (.val (.bool b))))=>K (aE (match neg with|true=>!(a==b)|false=>a==b)) m
   |_=>False
  |_=>False
 | .un op x=>match x.ev e with
  | .rv (.one (.ah (.val a)))=>ok (Yg op a) λv=>K (.rv (.one (.ah (.val v)))) m
  |_=>False
 | .conv k x=>match x.ev e with
  | .rv (.one (.ah (.val (.int _ n))))=>K (an k (k.wrap n)) m
  |_=>False
 | .Vi x=>match x.ev e with
  | .rv (.one (.ah (.val (.string s))))=>K (eU s) m
  |_=>False
 | .fn f eD=>ok (vL (GY e eD)) λj8=>K (.rv (.one (.fn f j8))) m
 | .len 1 x=>match x.ev e with
  | .rv (.one (.ah (.sl _ elems)))=>K (an .i64 (elems.length:Int)) m
  | .rv (.one (.row id _ lo hi))=>ok (cD m id) λbk=>match bk with
   | .row _ elems=>K (an .i64 (lenOf elems.length lo hi:Int)) m
   |_=>False
  | .rv (.one .aK)=>K (an .i64 0) m
  |_=>False
 | .len 0 x=>match x.ev e with
  | .rv (.one (.ah (.val (.string s))))=>K (an .i64 (s.size:Int)) m
  |_=>False
 | .len 2 x=>match x.ev e with
  | .rv (.one (.map id))=>ok (cD m id) λbk=>match bk with
   | .mp es=>K (an .i64 (es.length:Int)) m
   |_=>False
  |_=>False
 | .call f args=>match f.ev e with
  | .rv (.one (.fn f eD))=>ap P f (gn (GY e args) (vu eD)) m K
  |_=>False
 | .ext x i=>match x.ev e with
  | .bz rs=>ok (cD rs i) λr=>K (.rv r) m
  |_=>False
 | .ov esz bytes dst src=>bB (vQ (dst.ev e)&&GZ (dst.ev e) (src.ev e)) (ok (fu m esz (dst.ev e)) λE1=>ok (fu m esz (src.ev e)) λE2=>
   (E1.length+E2.length)*bytes<=140737488355328/\ny m λn=>K (.rv (.one (.row n esz 0 none))) (gn (iZ (iZ m (dst.ev e)) (src.ev e)) [.row esz (E1++E2)]))
   (match dst.ev e with
   | .rv (.one (.row id e1 lo (some h)))=>ok (cD m id) λbk=>match bk with
    | .row e2 rows=>ok (fu m esz (src.ev e)) λE2=>bB (Nat.beq lo 0&&(Nat.beq e1 esz&&(Nat.beq e2 esz&&(Nat.ble 1 rows.length&&(Nat.ble (h+E2.length) rows.length&&fw E2)))))
     (rows.length*bytes<=140737488355328/\K (.rv (.one (.row id esz 0 (some (h+E2.length))))) (aW m id (.row esz (cT rows h E2)))) False
    |_=>False
   |_=>False)
 | .yj neg x=>match x.ev e with
  | .rv (.one (.ah (.sl _ elems)))=>bB (Nat.beq elems.length 0) (K (aE true) m/\K (aE false) m) (K (aE neg) m)
  | .rv (.one (.row id _ lo hi))=>ok (cD m id) λbk=>match bk with
   | .row _ elems=>bB (Nat.beq (lenOf elems.length lo hi) 0) (K (aE true) m/\K (aE false) m) (K (aE neg) m)
   |_=>False
  | .rv (.one .aK)=>K (aE true) m/\K (aE false) m
  |_=>False
 | .nT esz x lo hi (some mx)=>bB (lo.isNone&&Er e hi&&Yh (mx.ev e)&&Lo (x.ev e)) (K (.rv (.one .aK)) m)
   (ok (kU e lo 0) λl=>ok (fu m esz (x.ev e)) λE=>ok (kU e hi E.length) λh=>ok (qA (mx.ev e)) λVn=>bB (lo.isSome&&(hi.isSome&&(Nat.ble l h&&(Nat.ble h Vn&&Nat.ble Vn E.length)))) (K .aF m) False)
 | .nT esz x lo hi none=>ok (kU e lo 0) λl=>match x.ev e with
  | .rv (.one (.ah (.sl e2 elems)))=>bB (Nat.beq e2 esz) (ok (kU e hi elems.length) λh=>bB (Nat.ble l h&&Nat.ble h elems.length) (K (.rv (.one (.ah (.sl esz ((elems.take h).drop l))))) m) False) False
  | .rv (.one (.row id e2 Es vy))=>ok (cD m id) λbk=>match bk with
   | .row _ elems=>bB (Nat.beq e2 esz) (ok (kU e hi (lenOf elems.length Es vy)) λh=>bB (Nat.ble l h&&Nat.ble h (elems.length-Es)) (K (.rv (.one (.row id esz (iB Es l) (some (iB Es h))))) m) False) False
   |_=>False
  |_=>False
 | .Ix x lo hi=>match x.ev e with
  | .rv (.one (.ah (.val (.string s))))=>ok (kU e lo 0) λl=>ok (kU e hi s.size) λh=>bB (Nat.ble l h&&Nat.ble h s.size) (K (eU (s.extract l h)) m) False
  |_=>False
 | .aO x=>match x.ev e with
  | .rv (.one (.ptr id j))=>K (.rv (.one (.ptr id j))) m
  | .rv (.one (.nv id s i j))=>K (.rv (.one (.nv id s i j))) m
  | .rv (.one (.rk ds))=>K (.rv (.one (.rk ds))) m
  |_=>False
 | .UJ x=>ok (fu m 1 (x.ev e)) λE=>ok (vR E) λxs=>K (eU (strOfNums xs)) m
 | .Vj x=>match x.ev e with
  | .rv (.one (.ah (.val (.string s))))=>s.size<=140737488355328/\ny m λn=>K (.rv (.one (.row n 1 0 none))) (gn m [.row 1 (qB s)])
  |_=>False
 | .jU mx [x,y]=>match x.ev e with
  | .rv (.one (.ah (.val (.int k a))))=>match y.ev e with
   | .rv (.one (.ah (.val (.int _ b))))=>match mx with
    |true=>K (an k (if b>a then b else a)) m
    |false=>K (an k (if b<a then b else a)) m
   |_=>False
  |_=>False
 | .Yf x=>match x.ev e with
  | .rv (.one (.row id e1 lo hi))=>ok (cD m id) λbk=>match bk with
   | .row esz rows=>bB (Nat.beq esz 1&&Nat.blt lo rows.length) (K (.rv (.one (.row id e1 lo hi))) m) False
   |_=>False
  |_=>False
 | .UK esz z x=>match x.ev e with
  | .rv (.one (.row id e1 lo hi))=>ok (cD m id) λbk=>match bk with
   | .row e2 rows=>bB (Nat.beq e1 esz&&(Nat.beq e2 esz&&Nat.ble (qz hi rows.length) rows.length))
     (bB (Nat.blt lo (qz hi rows.length)) (K (.bz []) (aW m id (.row esz (cT rows lo (gm (qz hi rows.length-lo) z))))) (K (.bz []) m)) False
   |_=>False
  | .rv (.one .aK)=>K (.bz []) m
  |_=>False
 | .copy esz d s=>ok (fu m esz (s.ev e)) λE=>bB (Nat.beq E.length 0) (bB (Lo (d.ev e)) (K (an .i64 0) m) False)
   (match d.ev e with
   | .rv (.one (.row id e1 lo hi))=>ok (cD m id) λbk=>match bk with
    | .row e2 rows=>bB (Nat.beq e1 esz&&(Nat.beq e2 esz&&(Nat.ble (qz hi rows.length) rows.length&&(Nat.ble (lo+E.length) (qz hi rows.length)&&fw E)))) (K (an .i64 (E.length:Int)) (aW m id (.row esz (cT rows lo E)))) False
    |_=>False
   |_=>False)
 | .Ll agg n sz x i=>match i.ev e with
  | .rv (.one (.ah (.val (.int _ j))))=>match x.ev e with
   | .rv (.agg cs)=>ok (dQ j n) λk=>ok (ja cs (k*sz) sz) λl=>ok (Ln agg l) λv=>K v m
   |_=>False
  |_=>False
 | .Vk x=>match x.ev e with
  | .rv (.one (.map id))=>ok (cD m id) λbk=>match bk with
   | .mp es=>ok (ru es) λl=>ny m λn=>K (.rv (.one (.ptr n 0))) (gn (aW m id .aR) [.it [] l])
   | .mo esz es none=>∀(st:List Nat)(gZ:Nat),st.length=es.length->st.Nodup->(∀s,s∈st->s<gZ)->ny m λn=>K (.rv (.one (.ptr n 0))) (gn (aW m id (.mo esz es (some (st,gZ)))) [.iw id gZ []])
   |_=>False
  |_=>False
 | .sY x=>match x.ev e with
  | .rv (.one (.ptr id 0))=>ok (cD m id) λbk=>match bk with
   | .it _ left=>(left=[]->K (.bz [.one (.ah (.val (.bool false)))]) m)/\∀(i:Nat)(k v:Value)(Rn:List (Value×Value)),left[i]? =some (k,v)->Rn=left.eraseIdx i->K (.bz [.one (.ah (.val (.bool true))),.one (.ah (.val k)),.one (.ah (.val v))]) (aW m id (.it [(k,v)] Rn))
   | .iw mid gZ seen=>ok (cD m mid) λb2=>match b2 with
    | .mo esz es (some (st,c2))=>c2=gZ/\((∀s,s∈st->s∈seen)->K (.bz [.one (.ah (.val (.bool false)))]) (aW m mid (.mo esz es none)))/\
     ∀(i:Nat)(x:MO)(s:Nat),es[i]? =some x->st[i]? =some s->¬s∈seen->K (.bz [.one (.ah (.val (.bool true))),.one (.ah (.val x.key)),.one .aF]) (aW m id (.iw mid gZ (s::seen)))
    |_=>False
   |_=>False
  |_=>False
 | .Vl x=>match x.ev e with
  | .rv (.one (.ptr id 0))=>ok (cD m id) λbk=>match bk with
   | .it (p::_) _=>K (.bz [.one (.ah (.val p.1)),.one (.ah (.val p.2))]) m
   | .iw mid gZ (s::_)=>ok (cD m mid) λb2=>match b2 with
    | .mo _ es (some (st,c2))=>c2=gZ/\∃(i:Nat)(x:MO),es[i]? =some x/\st[i]? =some s/\K (.bz [.one (.ah (.val x.key)),.one .aF]) m
    |_=>False
   |_=>False
  |_=>False
 | .ut=>ny m λn=>K (.rv (.one (.map n))) (gn m [.mp []])
 | .pu esz bytes z nx cx=>ok (qA (nx.ev e)) λl=>ok (qA (cx.ev e)) λc=>bB (Nat.beq l c) (c*bytes<=140737488355328/\ny m λn=>K (.rv (.one (.row n esz 0 none))) (gn m [.row esz (gm l z)])) False
 | .Ah z kk mx kx okF=>match kx.ev e with
  | .rv (.one (.ah (.val kv)))=>bB (ku kk kv) (match SG m (mx.ev e)with
   |some (id,esz,es,so)=>ok (iH kv es 0) λo=>match o with
    |none=>K (uv okF z none) m
    |some (_,.row n)=>K (uv okF z (some (.one (.row n esz 0 none)))) m
    |some (i,.d5 l)=>ny m λn=>K (uv okF z (some (.one (.row n esz 0 none)))) (gn (aW m id (.mo esz (aW es i ⟨kv,.row n⟩) so)) [.row esz (l.map λds=>ds.map .ah)])
   |none=>ok (G0 m (mx.ev e)) λes=>ok (rq kv es) λo=>K (uv okF z o) m) False
  | .rv (.agg cs)=>ok (td cs) λkv=>bB (ku kk kv) (ok (G0 m (mx.ev e)) λes=>ok (rq kv es) λo=>K (uv okF z o) m) False
  |_=>False
 | .vI kk mx kx vx=>match mx.ev e with
  | .rv (.one (.map id))=>match kx.ev e with
   | .rv (.one (.ah (.val kv)))=>bB (ku kk kv) (ok (cD m id) λbk=>match bk with
    | .mp es=>ok (B9 (vx.ev e)) λv=>ok (Ai kv v es) λbr=>K .undef (aW m id (.mp br))
    | .mo esz es none=>match vx.ev e with
     | .rv (.one (.row n e1 lo hi))=>ok (cD m n) λb2=>match b2 with
      | .row e2 rows=>bB (Nat.beq e1 esz&&Nat.beq e2 esz) (∃(ds:List (List Dt))(br:List MO),rows=ds.map (λd=>d.map .ah)/\mE kv (.d5 (bV ds lo hi)) es=some br/\K .undef (aW (aW m n .aR) id (.mo esz br none))) False
      |_=>False
     |_=>False
    |_=>False) False
   | .rv (.agg cs)=>ok (td cs) λkv=>bB (ku kk kv) (ok (cD m id) λbk=>match bk with
    | .mp es=>ok (B9 (vx.ev e)) λv=>ok (Ai kv v es) λbr=>K .undef (aW m id (.mp br))
    |_=>False) False
   |_=>False
  |_=>False
 | .Lj kk mx kx=>match mx.ev e with
  | .rv (.one (.map id))=>match kx.ev e with
   | .rv (.one (.ah (.val kv)))=>bB (ku kk kv) (ok (cD m id) λbk=>match bk with
    | .mo esz es (some (st,gZ))=>ok (iH kv es 0) λo=>match o with
     |none=>K (.bz []) m
     |some (i,_)=>K (.bz []) (aW m id (.mo esz (es.eraseIdx i) (some (st.eraseIdx i,gZ))))
    |_=>False) False
   |_=>False
  |_=>False
 |_=>False
def vS:Value->Option CC
 | .slice none 0 0=>some .aK
 |v=>match cn v with|true=>some (.ah (.val v))|false=>none
def bn:Operand->Option X
 | .tmp t=>some (.t t)
 | .const v=>(vS v).map λc=>.c (.rv (.one c))
 | .func f=>some (.c (.rv (.one (.fn f []))))
 | .global _=>none
def uw:List Operand->Option (List X)
 | []=>some []
 |x::r=>do some ((<-bn x)::(<-uw r))
def il:Option Operand->Option (Option X)
 |none=>some none
 |some x=>do some (some (<-bn x))
def eE(P:Program)(t:TypeId):Option Nat:=(P.info? t).map (·.size)
def dW(P:Program)(t:TypeId):Option Bool:=(P.underlying t).map λ| .struct _| .array _ _=>true|_=>false
def mF:List Value->Option (List CC)
 | []=>some []
 |v::r=>do some ((<-vS v)::(<-mF r))
def d6(P:Program)(t:TypeId):Option (List CC):=do mF (<-(<-P.info? t).zero).cells.toList
def mG(P:Program)(fs:Array Field):List (Nat×Operand)->Option (List (Nat×Nat×X))
 | []=>some []
 |(i,x)::r=>do
  let f<-fs[i]?
  some ((f.offset,<-eE P f.type,<-bn x)::(<-mG P fs r))
def kN(sz:Nat):List (Nat×Operand)->Option (List (Nat×Nat×X))
 | []=>some []
 |(i,x)::r=>do some ((i*sz,sz,<-bn x)::(<-kN sz r))
def kO:List (Nat×Operand)->Option (List (Nat×X))
 | []=>some []
 |(i,x)::r=>do some ((i,<-bn x)::(<-kO r))
def Ca(g:TypeId->Option (List Kd)):List Field->Nat->Option (List Kd)
 | [],_=>some []
 |f::r,off=>if f.name≠ "_" /\f.offset=off then
   match g f.type with
   |some ks=>match Ca g r (off+ks.length)with
    |some ls=>some (ks++ls)
    |none=>none
   |none=>none
  else none
def flatK(P:Program):Nat->TypeId->Option (List Kd)
 |0,_=>none
 |d+1,t=>match P.underlying t with
  |some .bool=>if eE P t=some 1 then some [.b]else none
  |some (.int _)=>if eE P t=some 1 then some [.i]else none
  |some .string=>if eE P t=some 1 then some [.s]else none
  |some (.struct fs)=>if P.stoodInHeld t=false then
    match Ca (flatK P d) fs.toList 0 with
    |some ks=>if eE P t=some ks.length then some ks else none
    |none=>none
   else none
  |_=>none
def oz(P:Program)(t:TypeId):Option Ky:=
 match P.underlying t with
 |some (.int k)=>some (.i k)
 |some .string=>some .s
 |some .bool=>some .b
 |some (.array n e)=>match P.underlying e with
  |some (.int k)=>if n=2/\eE P e=some 1 then some (.a2 k)else none
  |_=>none
 |_=>none
def Cb(P:Program)(t:TypeId):Option RV:=do
 match (<-(<-P.info? t).zero)with
 | .agg cs=>do some (.agg (<-mF cs.toList))
 |v=>do some (.one (<-vS v))
def vU(P:Program)(o:Oper):Option I:=
 match o.op with
 | .move x| .assign x=>do some (.aI (<-bn x))
 | .pick c a b=>do some (.pick (<-bn c) (<-bn a) (<-bn b))
 | .alloc t=>do some (.alloc (<-d6 P t))
 | .box _ x=>do some (.box (<-bn x))
 | .build t ps=>do
  let z<-d6 P t
  match P.underlying t with
  |some (.struct fs)=>if(fs.toList.mapM (λf=>(P.info? f.type).map λi=>(f.offset,i.size))).isSome then some (.build z (<-mG P fs ps.toList))else none
  |some (.array _ e)=>some (.build z (<-kN (<-eE P e) ps.toList))
  |_=>none
 | .buildSlice t n ps=>do
  match P.underlying t with
  |some (.slice e)=>
   let z<-d6 P e
   if(<-eE P e)=z.length/\0<z.length/\n*z.length<=2^24 then some (.nw z.length z n (<-kO ps.toList))else none
  |_=>none
 | .load t a=>do some (.load (<-dW P t) (<-eE P t) (<-bn a))
 | .store t a x=>do
  let n<-eE P t
  if n=0 then none else some (.store n (<-bn a) (<-bn x))
 | .fieldAddr t a k=>do
  match P.underlying t with
  |some (.struct fs)=>
   let f<-fs[k]?
   if(<-eE P f.type)=0 then none else some (.bU f.offset (<-bn a))
  |_=>none
 | .field t a k=>do
  match P.underlying t with
  |some (.struct fs)=>
   let f<-fs[k]?
   some (.Vh (<-dW P f.type) f.offset (<-eE P f.type) (<-bn a))
  |_=>none
 | .indexAddr t a i=>do
  match P.underlying t with
  |some (.slice e)=>some (.cr (<-eE P e) (<-bn a) (<-bn i))
  |some (.array n e)=>some (.B7 n (<-eE P e) (<-bn a) (<-bn i))
  |_=>none
 | .index t a i=>do
  match P.underlying t with
  |some .string=>some (.B8 (<-bn a) (<-bn i))
  |some (.array n e)=>some (.Ll (<-dW P e) n (<-eE P e) (<-bn a) (<-bn i))
  |_=>none
 | .binOp op t x y _=>do
  match P.underlying t with
  |some (.int _)|some .string=>some (.aJ op (<-bn x) (<-bn y))
  |some (.slice _)=>match y,op with
   | .const (.slice none 0 0),.eql=>some (.yj false (<-bn x))
   | .const (.slice none 0 0),.neq=>some (.yj true (<-bn x))
   |_,_=>none
  |some .bool=>match op with
   | .eql=>some (.beq false (<-bn x) (<-bn y))
   | .neq=>some (.beq true (<-bn x) (<-bn y))
   |_=>none
  |some (.array n e)=>match P.eqGuardType P.depth t,P.underlying e,eE P e,op with
   |false,some (.int _),some 1,.eql=>some (.Li false (gm n .i) (<-bn x) (<-bn y))
   |false,some (.int _),some 1,.neq=>some (.Li true (gm n .i) (<-bn x) (<-bn y))
   |_,_,_,_=>none
  |some (.struct _)=>match P.eqGuardType P.depth t,flatK P 5 t,op with
   |false,some ks,.eql=>some (.Li false ks (<-bn x) (<-bn y))
   |false,some ks,.neq=>some (.Li true ks (<-bn x) (<-bn y))
   |_,_,_=>none
  |_=>none
 | .unOp op _ x=>do some (.un op (<-bn x))
 | .convert s d x=>do
  match P.underlying s,P.underlying d with
  |some (.int _),some (.int k)=>some (.conv k (<-bn x))
  |some .string,some .string=>some (.Vi (<-bn x))
  |some (.slice e),some .string=>match P.underlying e with
   |some (.int .u8)=>some (.UJ (<-bn x))
   |_=>none
  |some .string,some (.slice e)=>match P.underlying e with
   |some (.int .u8)=>some (.Vj (<-bn x))
   |_=>none
  |some (.slice _),some (.slice e)=>match s==d,P.underlying e with
   |true,some (.int .u8)=>some (.Yf (<-bn x))
   |_,_=>none
  |_,_=>none
 | .makeMap t r=>match r,P.underlying t with
  |none,_=>some .ut
  |some (.const (.int _ _)),some (.map _ _)=>some .ut
  |_,_=>none
 | .makeSlice t l c=>do
  match P.underlying t with
  |some (.slice e)=>
   let i<-P.info? e;let z<-d6 P e
   if i.size=z.length/\0<z.length/\0<i.bytes then some (.pu i.size i.bytes z (<-bn l) (<-bn c))else none
  |_=>none
 | .lookup t x k b=>do
  match P.underlying t with
  |some (.map kt vt)=>some (.Ah (<-Cb P vt) (<-oz P kt) (<-bn x) (<-bn k) b)
  |_=>none
 | .mapUpdate t x k v| .insert t x k v=>do
  match P.underlying t with
  |some (.map kt _)=>some (.vI (<-oz P kt) (<-bn x) (<-bn k) (<-bn v))
  |_=>none
 | .makeFunc (.func f) fst eD=>if fst.size=0 then do some (.fn f (<-uw eD.toList))else none
 | .extract x i=>do some (.ext (<-bn x) i)
 | .nilCheck x=>do some (.aO (<-bn x))
 | .range t x=>match P.underlying t with
  |some (.map _ _)=>do some (.Vk (<-bn x))
  |_=>none
 | .next it false=>do some (.sY (<-bn it))
 | .entry it=>do some (.Vl (<-bn it))
 | .slice t x lo hi mx=>do
  match P.underlying t with
  |some (.slice e)=>some (.nT (<-eE P e) (<-bn x) (<-il lo) (<-il hi) (<-il mx))
  |some .string=>match mx with
   |none=>some (.Ix (<-bn x) (<-il lo) (<-il hi))
   |some _=>none
  |_=>none
 | .call {callee:= .builtin .len,args,argTypes}=>do
  match args.toList,argTypes.toList with
  | [x],[t]=>match P.underlying t with
   |some .string=>some (.len 0 (<-bn x))
   |some (.slice _)=>some (.len 1 (<-bn x))
   |some (.map _ _)=>some (.len 2 (<-bn x))
   |_=>none
  |_,_=>none
 | .call {callee:= .builtin .append,args,argTypes}=>do
  match args.toList,argTypes.toList with
  | [x,y],[t,t2]=>match P.underlying t,P.underlying t2 with
   |some (.slice e),some (.slice e2)=>
    let i<-P.info? e;let z<-d6 P e
    if i.size=z.length/\0<z.length/\0<i.bytes then some (.ov i.size i.bytes (<-bn x) (<-bn y))else none
   |_,_=>none
  |_,_=>none
 | .call {callee:= .builtin .max,args,..}=>do
  match args.toList with
  | [x,y]=>some (.jU true [<-bn x,<-bn y])
  |_=>none
 | .call {callee:= .builtin .min,args,..}=>do
  match args.toList with
  | [x,y]=>some (.jU false [<-bn x,<-bn y])
  |_=>none
 | .call {callee:= .builtin .clear,args,argTypes}=>do
  match args.toList,argTypes.toList with
  | [x],[t]=>match P.underlying t with
   |some (.slice e)=>
    let i<-P.info? e;let z<-d6 P e
    if i.size=z.length then some (.UK i.size z (<-bn x))else none
   |_=>none
  |_,_=>none
 | .call {callee:= .builtin .copy,args,argTypes}=>do
  match args.toList,argTypes.toList with
  | [x,y],[t,_]=>match P.underlying t with
   |some (.slice e)=>
    let i<-P.info? e;let z<-d6 P e
    if i.size=z.length then some (.copy i.size (<-bn x) (<-bn y))else none
   |_=>none
  |_,_=>none
 | .call {callee:= .builtin .delete,args,argTypes}=>do
  match args.toList,argTypes.toList with
  | [x,y],t::_=>match P.underlying t with
   |some (.map kt _)=>some (.Lj (<-oz P kt) (<-bn x) (<-bn y))
   |_=>none
  |_,_=>none
 | .call {callee:= .value f,args,..}=>do some (.call (<-bn f) (<-uw args.toList))
 |_=>none
def Lp:I:= .jU true []
def te(P:Program)(o:Oper):Option I:=
 match vU P o with
 |some i=>some i
 |none=>match o.op with
  | .defer _=>none
  |_=>some Lp
theorem Ps(P:Program){e:List CV}{m:Mem}{K:CV->Mem->Prop}:step P Lp e m K=False:=rfl
theorem Et{P:Program}{o:Oper}{i:I}(h:te P o=some i):vU P o=some i\/i=Lp:=by
 unfold te at h;split at h
 .rename_i j hj;exact .inl (by rw[hj];exact h)
 .split at h
  .cases h
  .cases h;exact .inr rfl
def Lq(ops:Array Oper):Option (Nat×Bool)->Option (Option (Nat×Bool))
 |none=>some none
 |some (j,b)=>do some (some (<-(<-ops[j]?).dst,b))
def vV(P:Program)(ops:Array Oper)(o:Oper):Option LO:=do some ⟨o.dst,<-te P o,<-Lq ops o.guard⟩
def mH(P:Program)(ops:Array Oper):List Oper->Option (List LO)
 | []=>some []
 |o::r=>do some ((<-vV P ops o)::(<-mH P ops r))
def I.xs:I->List X
 | .aI x=>[x]
 | .pick c a b=>[c,a,b]
 | .alloc _=>[]
 | .box x=>[x]
 | .build _ ps=>ps.map λp=>p.2.2
 | .nw _ _ _ ps=>ps.map λp=>p.2
 | .load _ _ a=>[a]
 | .store _ a x=>[a,x]
 | .bU _ a=>[a]
 | .Vh _ _ _ a=>[a]
 | .cr _ a i=>[a,i]
 | .B7 _ _ a i=>[a,i]
 | .B8 a i=>[a,i]
 | .aJ _ x y=>[x,y]
 | .Li _ _ x y=>[x,y]
 | .beq _ x y=>[x,y]
 | .un _ x=>[x]
 | .conv _ x=>[x]
 | .Vi x=>[x]
 | .Vj x=>[x]
 | .UJ x=>[x]
 | .nT _ x lo hi mx=>x::(lo.toList++hi.toList++mx.toList)
 | .Ix x lo hi=>x::(lo.toList++hi.toList)
 | .fn _ eD=>eD
 | .len _ x=>[x]
 | .ov _ _ d s=>[d,s]
 | .call f args=>f::args
 | .ext x _=>[x]
 | .aO x=>[x]
 | .yj _ x=>[x]
 | .ut=>[]
 | .pu _ _ _ n c=>[n,c]
 | .Ah _ _ m k _=>[m,k]
 | .vI _ m k v=>[m,k,v]
 | .jU _ xs=>xs
 | .Lj _ m k=>[m,k]
 | .copy _ d s=>[d,s]
 | .UK _ _ x=>[x]
 | .Ll _ _ _ x i=>[x,i]
 | .Yf x=>[x]
 | .Vk x=>[x]
 | .sY x=>[x]
 | .Vl x=>[x]
def lQ:List X->List Nat
 | []=>[]
 | .t n::r=>n::lQ r
 | .c _::r=>lQ r
def LO.looks(lo:LO):List Nat:=
 match lo.guard with
 |none=>lQ lo.BU.xs
 |some (s,_)=>s::lQ lo.BU.xs
def yO:I->Bool
 | .aI _| .pick .. | .build .. | .bU .. | .Vh .. | .Ll .. | .B7 .. | .B8 .. | .aJ .. | .Li .. | .beq .. | .un .. | .conv .. | .Vi .. | .fn .. | .ext .. | .aO _| .Ix .. =>true
 |_=>false
def tf(i:I):Bool:=yO i||match i with| .load .. | .cr .. | .len .. | .nT .. =>true|_=>false
def Aj(c6:List Nat)(l:List Nat):Nat:=l.foldr (λj m=>Nat.lor m (Nat.lor (Nat.shiftLeft 1 j) ((cD c6 j).getD 0))) 0
def Eu(gT:List (List Nat))(c6:List Nat):List Nat:=gT.map (Aj c6)
def Ak(gT:List (List Nat)):Nat->List Nat->List Nat
 |0,c6=>c6
 |k+1,c6=>let a:=Eu gT c6;match a==c6 with|true=>c6|false=>Ak gT k a
def bl(n:Nat)(gT:List (List Nat)):List Nat:=Ak gT n []
def nz(ms:List Nat)(i j:Nat):Bool:=Nat.testBit ((cD ms i).getD 0) j
def dg(bS:List LO)(t j:Nat):Bool:=match cD bS j with|some lo=>(match lo.dst with|some d=>Nat.beq d t|none=>false)|none=>false
def oA(bS:List LO)(j:Nat):List Nat:=match cD bS j with|some lo=>lo.looks|none=>[]
def Iz(bS:List LO)(j:Nat):Option Nat:=match cD bS j with|some lo=>lo.dst|none=>none
def Ev(bS:List LO)(j:Nat):Bool:=match cD bS j with|some lo=>yO lo.BU|none=>false
def lR(bS:List LO)(j:Nat):Bool:=match cD bS j with|some lo=>tf lo.BU|none=>false
def nt.hd:nt->List Nat
 | .nil=>[]
 | .cons i _ _=>[i]
 | .vJ a b=>a.hd++b.hd
def G1(bS:List LO)(ms:List Nat)(n:Nat)(bf:List Nat)(i:Nat):Bool:=
 Nat.blt i n&& !(bf.contains i)&&
  ((oA bS i).all λt=>bf.all λj=>!(dg bS t j)||nz ms i j)&&
  (match Iz bS i with|none=>true|some t=>bf.all λj=>!(dg bS t j)&&(!((oA bS j).contains t)||nz ms i j))
def SH(ms:List Nat)(n:Nat)(bf hd:List Nat):Bool:=(List.range n).all λi=>bf.contains i||(hd.contains i||hd.any λf=>nz ms i f)
def dX(bS:List LO)(ms:List Nat)(n:Nat):Bool->List Nat->nt->Bool
 |c,bf,.nil=>c&&(List.range n).all λi=>bf.contains i
 |c,bf,.cons i none r=>c&&(G1 bS ms n bf i&&(lR bS i&&dX bS ms n true (i::bf) r))
 |c,bf,.cons i (some l) r=>(!c||SH ms n bf [i])&&(G1 bS ms n bf i&&((bf.all λj=>!(lR bS j)||(nz ms i j||(Ev bS j||l.contains j)))&&dX bS ms n true (i::bf) r))
 |c,bf,.vJ x y=>(!c||SH ms n bf (x.hd++y.hd))&&(dX bS ms n false bf x&&dX bS ms n false bf y)
def yP(gT:List (List Nat))(n:Nat):List Nat->List Nat->Bool
 |bf,[]=>(List.range n).all λi=>bf.contains i
 |bf,i::r=>Nat.blt i n&&((cD gT i).getD []).all (λj=>bf.contains j)&&yP gT n (i::bf) r
def Vo(gT:List (List Nat))(n:Nat):Nat->List Nat->List Nat
 |0,_=>[]
 |k+1,bf=>match (List.range n).find? λi=>!(bf.contains i)&&((cD gT i).getD []).all (λj=>bf.contains j)with
  |some i=>i::Vo gT n k (i::bf)
  |none=>[]
def ry(bS:List LO)(gT:List (List Nat))(sched:nt):Bool:=
 yP gT bS.length [] (Vo gT bS.length bS.length [])&&dX bS (bl bS.length gT) bS.length true [] sched
def Lr(bS:List LO)(ms:List Nat)(Cc:List Nat)(done:List Nat)(i:Nat):Bool:=
 !(done.contains i)&&lR bS i&&Cc.all λf=>done.contains f|| !(nz ms i f)
def Ro:List Nat->nt->nt
 | [],r=>r
 |i::l,r=>.cons i none (Ro l r)
def Vp:List nt->nt
 | []=>.nil
 | [x]=>x
 |x::r=>.vJ x (Vp r)
def G2(bS:List LO)(ms:List Nat)(all Cc:List Nat):Nat->List Nat->nt
 |0,_=>.nil
 |k+1,done=>
  let Yi:=all.filter (Lr bS ms Cc done);let Rp:=Yi.reverse++done;let left:=Cc.filter λf=>!(done.contains f)
  Ro Yi (Vp ((left.filter λf=>left.all λg=>Nat.beq g f|| !(nz ms f g)).map λf=>
   .cons f (some (Rp.filter λj=>lR bS j&& !(nz ms f j||Ev bS j))) (G2 bS ms all Cc k (f::Rp))))
def G3(bS:List LO)(gT:List (List Nat)):nt:=
 let ms:=bl bS.length gT;let all:=List.range bS.length;let Cc:=all.filter λi=>!(lR bS i)
 G2 bS ms all Cc (Cc.length+1) []
def kV(md:Region.Mode)(ops:Array Oper):List (List Nat):=ops.toList.map λo=>(o.after.toList.filter (Region.binds md)).map (·.on)
def vz(P:Program)(ops:Array Oper):List Region.Mode:=if(P.follows .mixedOrders|| !(Region.departs ops))=true then [.any]else [.text,.gc]
def vW(P:Program)(bS:List LO)(ops:Array Oper):Option (List nt):=
 let ms:=vz P ops;let s:=G3 bS (kV .any ops)
 if(ms.all λmd=>ry bS (kV md ops) s)=true then some [s]
 else
  let ss:=ms.map λmd=>G3 bS (kV md ops)
  if(ms.all λmd=>ss.any λs=>ry bS (kV md ops) s)=true then some ss else none
def dV(P:Program):Code->Option LC
 | .skip=>some .skip
 | .region _ ops true=>do
  let bS<-mH P ops ops.toList
  some (.bR bS (<-vW P bS ops))
 | .region _ ops false=>do some (.ai (<-mH P ops ops.toList))
 | .seq a b=>do some (.seq (<-dV P a) (<-dV P b))
 | .cond x a b=>do some (.cond (<-bn x) (<-dV P a) (<-dV P b))
 | .block id b=>do some (.block id (<-dV P b))
 | .loop b=>do some (.loop (<-dV P b))
 | .exit id=>some (.exit id)
 | .ret=>some .ret
 | .rangeFunc f ps a c=>do
  match ps.toList with
  | [p]=>
   let la<-dV P a;let lc<-dV P c
   if(la.rn&&lc.rn)=true then some (.yk (<-bn f) p la lc)else none
  |_=>none
 |_=>none
def oB(P:Program):List ResultVar->Option (List Rv)
 | []=>some []
 | .tmp t::r=>do some (.tmp t::(<-oB P r))
 | .cell a t::r=>do some (.cell (<-dW P t) (<-eE P t) a::(<-oB P r))
def bw(P:Program)(fn:Func):Option LF:=do
 some ⟨fn.ntmps,<-oB P fn.results.toList,<-dV P (<-fn.body)⟩
inductive Ex where
 |normal
 |exit (id:Nat)
 |ret
def put(d:Option Nat)(v:CV)(e:List CV)(K:List CV->Prop):Prop:=
 match d with
 |none=>K e
 |some d=>fV v λv=>i9 (aW e d v) K
def G4(P:Program)(o:LO)(ih:(List CV->Mem->Prop)->List CV->Mem->Prop)(K:List CV->Mem->Prop)(e:List CV)(m:Mem):Prop:=
  match o.guard with
  |none=>step P o.BU e m λv m'=>i9 m' λm'=>put o.dst v e λe'=>ih K e' m'
  |some (s,jV)=>
   match kp e s with
   | .undef=>put o.dst .undef e λe'=>ih K e' m
   | .rv (.one (.ah (.val (.bool t))))=>bB t
    (i9 (aW e s (aE true)) λe=>match jV with
     |true=>step P o.BU e m λv m'=>i9 m' λm'=>put o.dst v e λe'=>ih K e' m'
     |false=>put o.dst .undef e λe'=>ih K e' m)
    (i9 (aW e s (aE false)) λe=>match jV with
     |false=>step P o.BU e m λv m'=>i9 m' λm'=>put o.dst v e λe'=>ih K e' m'
     |true=>put o.dst .undef e λe'=>ih K e' m)
   |_=>False
def IA(P:Program)(l:List LO):(List CV->Mem->Prop)->List CV->Mem->Prop:=
 @List.rec LO (λ_=>(List CV->Mem->Prop)->List CV->Mem->Prop) (λK e m=>K e m) (λo _ ih K e m=>G4 P o ih K e m) l
theorem yQ{P:Program}{o:LO}{r:List LO}{K:List CV->Mem->Prop}{e:List CV}{m:Mem}:IA P (o::r) K e m=G4 P o (IA P r) K e m:=rfl
def nU(P:Program)(lo:LO)(e:List CV)(m:Mem)(K:List CV->CV->Mem->Prop):Prop:=
 match lo.guard with
 |none=>step P lo.BU e m λv m'=>i9 m' λm'=>K e v m'
 |some (s,jV)=>match kp e s with
  | .undef=>K e .undef m
  | .rv (.one (.ah (.val (.bool t))))=>bB t
   (i9 (aW e s (aE true)) λe=>match jV with
    |true=>step P lo.BU e m λv m'=>i9 m' λm'=>K e v m'
    |false=>K e .undef m)
   (i9 (aW e s (aE false)) λe=>match jV with
    |false=>step P lo.BU e m λv m'=>i9 m' λm'=>K e v m'
    |true=>K e .undef m)
  |_=>False
def vX(j:Nat):List (Nat×LO×List CV×CV)->Option (LO×List CV×CV)
 | []=>none
 |(i,x)::r=>match Nat.beq i j with|true=>some x|false=>vX j r
def Vq(P:Program)(m:Mem)(d7:List (Nat×LO×List CV×CV))(l:List Nat):Prop:=
 @List.rec Nat (λ_=>Prop) True (λj _ ih=>(ok (vX j d7) λx=>nU P x.1 x.2.1 m λ_ v _=>v=x.2.2)/\ih) l
theorem Ls{P:Program}{m:Mem}{d7:List (Nat×LO×List CV×CV)}{j:Nat}{r:List Nat}:Vq P m d7 (j::r)=((ok (vX j d7) λx=>nU P x.1 x.2.1 m λ_ v _=>v=x.2.2)/\Vq P m d7 r):=rfl
def G5(P:Program)(bS:List LO)(i:Nat)(Lm:Option (List Nat))(ih:List (Nat×LO×List CV×CV)->(List CV->Mem->Prop)->List CV->Mem->Prop)(d7:List (Nat×LO×List CV×CV))(K:List CV->Mem->Prop)(e:List CV)(m:Mem):Prop:=
 ok (cD bS i) λlo=>nU P lo e m λe1 v m'=>put lo.dst v e1 λe'=>
  match Lm with
  |none=>ih ((i,lo,e,v)::d7) K e' m'
  |some l=>Vq P m' d7 l/\ih d7 K e' m'
def u5(P:Program)(bS:List LO)(Y0:nt):List (Nat×LO×List CV×CV)->(List CV->Mem->Prop)->List CV->Mem->Prop:=
 @nt.rec (λ_=>List (Nat×LO×List CV×CV)->(List CV->Mem->Prop)->List CV->Mem->Prop) (λ_ K e m=>K e m)
  (λi Lm _ ih d7 K e m=>G5 P bS i Lm ih d7 K e m) (λ_ _ SI SJ d7 K e m=>SI d7 K e m/\SJ d7 K e m) Y0
theorem yR{P:Program}{bS:List LO}{i:Nat}{Lm:Option (List Nat)}{r:nt}{d7:List (Nat×LO×List CV×CV)}{K:List CV->Mem->Prop}{e:List CV}{m:Mem}:
  u5 P bS (.cons i Lm r) d7 K e m=G5 P bS i Lm (u5 P bS r) d7 K e m:=rfl
theorem Lt{P:Program}{bS:List LO}{a b:nt}{d7:List (Nat×LO×List CV×CV)}{K:List CV->Mem->Prop}{e:List CV}{m:Mem}:
  u5 P bS (.vJ a b) d7 K e m=(u5 P bS a d7 K e m/\u5 P bS b d7 K e m):=rfl
def SK(x:X)(v:CV)(e:List CV):List CV:=
 match x with
 | .t n=>aW e n v
 | .c _=>e
def kz:Nat->List (Nat×CV)->List CV
 |n,as=>go n as (gm n .aF)
 where go:Nat->List (Nat×CV)->List CV->List CV
 |_,[],e=>e
 |n,(s,v)::r,e=>aW (go n r e) s v
inductive mI:Mem->Mem->Prop
 |nil (m:Mem):mI m []
 |cons {b b':Bk} {m m':Mem} (h:b'=b\/b'= .aR) (hm:mI m m'):mI (b::m) (b'::m')
def CC.dt(n:Nat):CC->Prop
 | .ptr id _=>id<n
 | .nv id _ _ _=>id<n
 | .row id _ _ _=>id<n
 | .map id=>id<n
 | .fn _ eD=>∀id,id∈eD->id<n
 |_=>True
def RV.dt(n:Nat):RV->Prop
 | .one c=>c.dt n
 | .agg cs=>∀c,c∈cs->c.dt n
def CV.dt(n:Nat):CV->Prop
 | .rv r=>r.dt n
 | .bz rs=>∀r,r∈rs->r.dt n
 |_=>True
def Bk.dt(n:Nat):Bk->Prop
 | .aR=>True
 | .var cs=>∀c,c∈cs->c.dt n
 | .row _ elems=>∀cs,cs∈elems->∀c,c∈cs->c.dt n
 | .mp es=>∀e,e∈es->e.val.dt n
 | .it _ _=>True
 | .mo _ es _=>∀e,e∈es->(e.cc 0).dt n
 | .iw mid _ _=>mid<n
structure Lu(n0:Nat)(s s':St):Prop where
 n0:n0<=s'.mem.length
 len:s'.aX.length=s.aX.length
 aX:∀(i:Nat)v,s'.aX[i]? =some v->v= .aF\/(s.aX[i]? =some v/\(s'.mem.length=s.mem.length\/v.dt s'.mem.length))
 mem:mI s.mem s'.mem
 j8:s'.mem.length=s.mem.length\/∀b,b∈s'.mem->b.dt s'.mem.length
structure SL(n0:Nat)(ρ:bG)(m:Mem)(U':bG)(m':Mem):Prop where
 aH:∀id,id<n0->U'.aH (.aj id)=ρ.aH (.aj id)
 S:∀b,ρ.S b->U'.S b
 S':∀b,U'.S b->ρ.S b\/∃k,Live ρ m k/\(ρ.aH k).b=b
 aP:∀k,Live U' m' k->∃k0,Live ρ m k0/\(ρ.aH k0).b=(U'.aH k).b
structure View(n0:Nat)(s s':St):Prop where
 hn:n0<=s'.mem.length
 len:s'.aX.length=s.aX.length
 go:∀(ρ:bG)(w:World),ax ρ s.mem w->∃U',ax U' s'.mem w/\SL n0 ρ s.mem U' s'.mem/\∀(i:Nat)c',s'.aX[i]? =some c'->∃c,s.aX[i]? =some c/\∀v,bZ ρ w c v->bZ U' w c' v
def SM(f:(Ex->St->Prop)->St->Prop)(K:Ex->St->Prop)(ex:Ex)(s:St):Prop:=
 match ex with
 | .normal=>f K s
 | .exit id=>K (.exit id) s
 | .ret=>K .ret s
def Ew(id:Nat)(K:Ex->St->Prop)(ex:Ex)(s:St):Prop:=
 match ex with
 | .normal=>K .normal s
 | .exit j9=>bB (Nat.beq j9 id) (K .normal s) (K (.exit j9) s)
 | .ret=>K .ret s
def G6(n0:Nat){α:Type}(J:α->Prop)(S:α->St)(μ:α->Nat)(n:Nat)(K:Ex->St->Prop)(ex:Ex)(s:St):Prop:=
 match ex with
 | .normal=>∃a,J a/\μ a<n/\View n0 s (S a)
 | .exit id=>K (.exit id) s
 | .ret=>K .ret s
def IB(K:Ex->St->Prop)(e:List CV)(m:Mem):Prop:=K .normal ⟨e,m⟩
def pW:Mem->List Nat->Mem
 |m,[]=>m
 |m,id::r=>pW (aW m id .aR) r
def Al(m:Mem):List Nat->List Value->Prop
 | [],[]=>True
 |id::r,v::vs=>(cD m id=some (.var [.ah (.val v)])/\cn v=true)/\Al m r vs
 |_,_=>False
def rz(as:List (Nat×Nat)):List Value:=as.map λa=>Value.pointer (some ⟨a.1,a.2,none⟩)
def Rq(P:Program)(l:Nat)(args:Array Value)(W:World)(R:Ending->World->Prop):Prop:=
 ∃fn tmps assign body,(Instr.yield l args).run P W= .ok (.round l fn tmps assign body) W/\RoundIn Fence.wide 0 P l fn tmps assign body W R
def Vr(P:Program)(gf:Nat)(cs:List Value)(xs:List ByteArray):Prop:=
 (∃fn,P.funcs[gf]? =some fn/\fn.body.isSome=true/\(fn.name== "runtime.NumGoroutine")=false)/\
 ∀(l:Nat)(as:List (Nat×Nat))(W:World)(J:Nat->World->Prop)(Jx:World->Prop),as.length=cs.length->(as.map (·.1)).Nodup->
  (∀(i:Nat)a v,as[i]? =some a->cs[i]? =some v->W.cell? ⟨a.1,a.2,none⟩=some v/\W.frozen? ⟨a.1,a.2,none⟩=false)->
  (∀k W W',J k W->W.heap.size<=W'.heap.size->(∀b,b<W.heap.size->(∀a,a∈as->b≠a.1)->W'.heap[b]? =W.heap[b]?)->W'.os=W.os->W'.tape=W.tape->W'.output=W.output->J k W')->
  (∀W W',Jx W->W.heap.size<=W'.heap.size->(∀b,b<W.heap.size->(∀a,a∈as->b≠a.1)->W'.heap[b]? =W.heap[b]?)->W'.os=W.os->W'.tape=W.tape->W'.output=W.output->Jx W')->
  (∀k y W,xs[k]? =some y->J k W->Rq P l #[.string y] W λe W'=>
   (e= .returned (.bool true)/\J (k+1) W'/\W.heap.size<=W'.heap.size/\∀a,a∈as->W'.heap[a.1]? =W.heap[a.1]?)\/(e= .returned (.bool false)/\Jx W'))->
  J 0 W->
  CallsIn Fence.wide 0 P gf (#[.func (.yield l) #[] #[]]++(rz as).toArray) W λe W'=>(∃v,e= .returned v)/\(J xs.length W'\/Jx W')
def Y1(n0:Nat){α:Type}(J:Nat->α->Prop)(S:α->St)(k:Nat)(aX:List CV)(K:Ex->St->Prop)(ex:Ex)(s:St):Prop:=
 match ex with
 | .normal=>∃a,J (k+1) a/\View n0 ⟨aX,s.mem⟩ (S a)
 | .exit id=>K (.exit id) ⟨aX,s.mem⟩
 | .ret=>K .ret ⟨aX,s.mem⟩
def Pu(P:Program)(bS:List LO)(K:Ex->St->Prop)(s:St):List nt->Prop
 | []=>True
 | [x]=>u5 P bS x [] (IB K) s.aX s.mem
 |x::y::r=>u5 P bS x [] (IB K) s.aX s.mem/\Pu P bS K s (y::r)
def aw(P:Program)(n0:Nat):LC->(Ex->St->Prop)->St->Prop
 | .skip,K,s=>K .normal s
 | .ai ops,K,s=>IA P ops (IB K) s.aX s.mem
 | .bR bS qx,K,s=>Pu P bS K s qx
 | .seq a b,K,s=>aw P n0 a (SM (aw P n0 b) K) s
 | .cond x a b,K,s=>match x.ev s.aX with
  | .rv (.one (.ah (.val (.bool t))))=>bB t
   (i9 (SK x (aE true) s.aX) λe=>aw P n0 a K ⟨e,s.mem⟩)
   (i9 (SK x (aE false) s.aX) λe=>aw P n0 b K ⟨e,s.mem⟩)
  |_=>False
 | .block id b,K,s=>aw P n0 b (Ew id K) s
 | .loop b,K,s=>∃(α:Type)(J:α->Prop)(S:α->St)(μ:α->Nat),(∃a,J a/\View n0 s (S a))/\∀a,J a->aw P n0 b (G6 n0 J S μ (μ a) K) (S a)
 | .exit id,K,s=>K (.exit id) s
 | .ret,K,s=>K .ret s
 | .cU a,K,s=>∃s',View n0 s s'/\aw P n0 a K s'
 | .yk x p la lb,K,s=>∃(gf:Nat)(j8:List Nat)(cs:List Value)(xs:List ByteArray)(α:Type)(J:Nat->α->Prop)(S:α->St),
   x.ev s.aX= .rv (.one (.fn gf j8))/\Al s.mem j8 cs/\(j8.Nodup/\j8≠[])/\Vr P gf cs xs/\(∃a,J 0 a/\View n0 ⟨s.aX,pW s.mem j8⟩ (S a))/\
   (∀k y a,xs[k]? =some y->J k a->ny (S a).mem λn1=>aw P n1 la (λex s2=>match ex with
    | .normal=>ny s2.mem λn2=>aw P n2 lb (Y1 n0 J S k (S a).aX K) s2
    |_=>False) ⟨aW (S a).aX p (eU y),(S a).mem⟩)/\
   ∀a,J xs.length a->K .normal (S a)
def Cd(P:Program)(s:St):List Rv->(List RV->Prop)->Prop
 | [],K=>K []
 | .tmp t::r,K=>ok (B9 (kp s.aX t)) λv=>Cd P s r λvs=>K (v::vs)
 | .cell agg n t::r,K=>vN s.aX s.mem agg n (kp s.aX t) λv=>ok (B9 v) λv=>Cd P s r λvs=>K (v::vs)
def SN:List RV->CV
 | [r]=>.rv r
 |rs=>.bz rs
def oC(P:Program)(lP:List Rv)(K:CV->Mem->Prop)(ex:Ex)(s:St):Prop:=
 match ex with
 | .exit _=>False
 |_=>Cd P s lP λvs=>K (SN vs) s.mem
def body(P:Program)(lf:LF)(args:List CV)(m:Mem)(K:CV->Mem->Prop):Prop:=
 i9 (gn args (gm (lf.n-args.length) .undef)) λe=>ny m λn0=>aw P n0 lf.code (oC P lf.lP K) ⟨e,m⟩
abbrev qm(d s:Nat):LO:=⟨some d,.aI (.t s),none⟩
abbrev qu(d:Nat)(i:I):LO:=⟨some d,i,none⟩
abbrev qw(i:I):LO:=⟨none,i,none⟩
abbrev qg(d:Nat)(i:I)(s:Nat)(b:Bool):LO:=⟨some d,i,some (s,b)⟩
abbrev qf(d k s:Nat):LO:=⟨some d,.bU k (.t s),none⟩
abbrev ql(d s:Nat):LO:=⟨some d,.load false 1 (.t s),none⟩
abbrev qL(d n s:Nat):LO:=⟨some d,.load true n (.t s),none⟩
abbrev qi(n:Int):X:= .c (.rv (.one (.ah (.val (.int .i64 n)))))
abbrev qb(b:Bool):X:= .c (.rv (.one (.ah (.val (.bool b)))))
abbrev qe:X:= .c (.rv (.one .aK))
abbrev qd(n:Int):CC:= .ah (.val (.int .i64 n))
abbrev qc(f:Nat)(a:List X):I:= .call (.c (.rv (.one (.fn f [])))) a
instance(n:Nat):OfNat X n:=⟨.t n⟩
abbrev eh:Nat->Nat->nt->nt
  |0,_,t=>t
  |n+1,i,t=>.cons i none (eh n (i+1) t)
theorem aT{α:Type}:∀(l:List α)(i:Nat),cD l i=l[i]?
 | [],_=>by simp[cD]
 |_::_,0=>rfl
 |_::r,k+1=>by simpa[cD]using aT r k
theorem aY{α:Type}:∀(l:List α)(i:Nat)(x:α),aW l i x=l.set i x
 | [],_,_=>rfl
 |_::_,0,_=>rfl
 |a::r,k+1,x=>by simp[aW,aY r k x]
theorem b7{α:Type}:∀(a b:List α),gn a b=a++b
 | [],_=>rfl
 |x::r,b=>by simp[gn,b7 r b]
theorem fM{α:Type}:∀(n:Nat)(x:α),gm n x=List.replicate n x
 |0,_=>rfl
 |n+1,x=>by simp[gm,fM n x,List.replicate_succ]
theorem fe{α:Type}{β:Sort _}:∀(l:List α)(k:List α->β),i9 l k=k l
 | [],_=>rfl
 |x::r,k=>fe r λr'=>k (x::r')
theorem Vs{β:Sort _}(v:CV)(k:CV->β):fV v k=k v:=by
 cases v with
 |rv r=>
  cases r with
  |one c=>rfl
  |agg cs=>exact fe cs _
 |_=>rfl
theorem lS:∀(e:List CV)(i:Nat),kp e i=(e[i]?).getD .aF
 | [],_=>by simp[kp]
 |_::_,0=>rfl
 |_::r,k+1=>by simpa[kp]using lS r k
theorem aV{α:Type}{o:Option α}{K:α->Prop}:ok o K↔∃x,o=some x/\K x:=by
 cases o<;>simp[ok]
theorem cf{t:Bool}{A B:Prop}:bB t A B↔(t=true/\A)\/(t=false/\B):=by
 cases t<;>simp[bB]
theorem Ce{β:Sort _}(m0:Mem):∀(m:Mem)(c n:Nat)(k:Nat->β),m0.length=c+m.length->vM m0 m (List.range' c n) k=k m0.length
 | [],c,0,k,_=>by simp[vM]
 | [],c,n+1,k,h=>by simp[vM,ac1,h]
 |_::r,c,0,k,h=>by simp[vM]
 |_::r,c,n+1,k,h=>by
  rw[ac1,vM];exact Ce m0 r (c+1) n k (by simp at h;omega)
theorem gC{β:Sort _}(m:Mem)(k:Nat->β):ny m k=k m.length:=by have:=Ce m m 0 64 k aC;exact this
theorem kW:∀{cs:List CC}{j n:Nat}{l:List CC},ja cs j n=some l->l.length=n/\∀i,i<n->cs[j+i]? =l[i]?
 |cs,0,0,l,h=>by cases cs<;>simp[ja]at h<;>subst h<;>simp
 | [],0,n+1,l,h=>by simp[ja]at h
 | [],j+1,n,l,h=>by cases n<;>simp[ja]at h
 |c::cs,0,n+1,l,h=>by
  simp only[ja]at h;cases hr:ja cs 0 n with
  |none=>simp[hr]at h
  |some l'=>
   simp[hr]at h;subst h;obtain⟨h1,h2⟩:=kW hr;refine⟨by simp[h1],λi hi=>?_⟩
   cases i with
   |zero=>simp
   |succ i=>have:=h2 i (by omega);simpa using this
 |c::cs,j+1,n,l,h=>by
  have h':ja cs j n=some l:=by cases n<;>simpa[ja]using h
  obtain⟨h1,h2⟩:=kW h';refine⟨h1,λi hi=>?_⟩
  have:=h2 i hi;rw[show j+1+i=(j+i)+1 by omega]
  simpa using this
theorem jJ:∀{cs:List CC}{j:Nat}{xs l:List CC},gJ cs j xs=some l->
  l.length=cs.length/\j+xs.length<=cs.length/\∀i,l[i]? =if j<=i/\i<j+xs.length then xs[i-j]? else cs[i]?
 |cs,0,[],l,h=>by
  cases cs<;>simp[gJ]at h<;>subst h
  .simp
  .refine⟨rfl,aC,λi=>?_⟩
   rw[if_neg aC]
 | [],0,x::xs,l,h=>by simp[gJ]at h
 | [],j+1,xs,l,h=>by cases xs<;>simp[gJ]at h
 |c::cs,0,x::xs,l,h=>by
  simp only[gJ]at h;cases hr:gJ cs 0 xs with
  |none=>simp[hr]at h
  |some l'=>
   simp[hr]at h;subst h;obtain⟨h1,h2,h3⟩:=jJ hr;refine⟨by simp[h1],by simp at h2|-;omega,λi=>?_⟩
   cases i with
   |zero=>simp
   |succ i=>
    have:=h3 i;simp only[aan,true_and,aaM,acr,aaj,abC]at this|-;rw[this];simp
 |c::cs,j+1,xs,l,h=>by
  have h':(gJ cs j xs).map (c:: ·)=some l:=by
   rw[<-h];cases hr:gJ cs j xs<;>cases xs<;>simp[gJ,hr]
  cases hr:gJ cs j xs with
  |none=>simp[hr]at h'
  |some l'=>
   simp[hr]at h';subst h';obtain⟨h1,h2,h3⟩:=jJ hr;refine⟨by simp[h1],by simp;omega,λi=>?_⟩
   cases i with
   |zero=>rw[if_neg om];simp
   |succ i=>
    have:=h3 i;simp only[abC,this];by_cases hc:j<=i/\i<j+xs.length
    .rw[if_pos hc,if_pos om,show i+1-(j+1)=i-j by omega]
    .rw[if_neg hc,if_neg om]
theorem vY:∀{ds:List Dt}{n:Nat}{l:List CC},vK ds n=some l->l.length=n/\∀i,i<n->∃d,ds[i]? =some d/\l[i]? =some (.ah d)
 |ds,0,l,h=>by cases ds<;>simp[vK]at h<;>subst h<;>simp
 | [],n+1,l,h=>by simp[vK]at h
 |d::ds,n+1,l,h=>by
  simp only[vK]at h;cases hr:vK ds n with
  |none=>simp[hr]at h
  |some l'=>
   simp[hr]at h;subst h;obtain⟨h1,h2⟩:=vY hr;refine⟨by simp[h1],λi hi=>?_⟩
   cases i with
   |zero=>exact⟨d,aC,aC⟩
   |succ i=>simpa using h2 i om
theorem vZ:∀{l:List CC},jc l=true->∀c,c∈l->∀esz e,c≠.d5 esz e
 | [],_,c,hc,_,_=>by simp at hc
 |x::r,h,c,hc,esz,e=>by
  cases x with
  |d5 a b=>simp[jc]at h
  |_=>
   rcases aaB.1 hc with rfl|hc
   .simp
   .exact vZ (l:=r) (by simpa[jc]using h) c hc esz e
def Bk.Am:Bk->Prop
 | .row _ elems=>∀(i:Nat)cs(j:Nat)c,elems[i]? =some cs->cs[j]? =some c->∀esz e,c≠.d5 esz e
 | .mo _ es _=>∀e,e∈es->∀l,e.val≠.d5 l
 |_=>True
theorem bi.Ao{ρ:bG}{w:World}{c:CC}{v:Value}(h:bi ρ w .none c v)(esz:Nat)(e:List (List Dt)):c≠.d5 esz e:=by rintro rfl;obtain⟨_,_,_,e,_⟩:=h;cases e
theorem bi.wa{ρ:bG}{w:World}{c:CC}{v:Value}(h:bi ρ w .none c v)(pos:Option (Nat×Nat×Nat)):bi ρ w pos c v:=by
 cases c<;>first|exact h|(obtain⟨_,_,_,e,_⟩:=h;cases e)
theorem bi.Vt{ρ:bG}{w:World}{pos:Option (Nat×Nat×Nat)}{c:CC}{v:Value}(hn:∀esz e,c≠.d5 esz e)(h:bi ρ w pos c v):bi ρ w .none c v:=by
 cases c<;>first|exact h|exact absurd rfl (hn _ _)
def bG.push(ρ:bG)(l:vH):bG:=
 {n:=ρ.n+1,aH:=λk=>if k.id=ρ.n then l else ρ.aH k,S:=ρ.S}
theorem bG.eL(ρ:bG)(l:vH){k:gd}(h:k.id<ρ.n):(ρ.push l).aH k=ρ.aH k:=by simp only[bG.push];rw[if_neg om]
theorem bG.fT(ρ:bG)(l:vH):(ρ.push l).aH (.aj ρ.n)=l:=by simp[bG.push,gd.id]
structure eG(w w':World):Prop where
 heap:∀b,b<w.heap.size->w'.heap[b]? =w.heap[b]?
 size:w.heap.size<=w'.heap.size
 os:w'.os=w.os
 tape:w'.tape=w.tape
 output:w'.output=w.output
theorem eG.alloc(w:World)(o:Obj):eG w (w.alloc o):=⟨λb h=>heap_alloc_old w o b h,aC,rfl,rfl,rfl⟩
theorem eG.drew(w:World):eG w w.drew:=⟨λ_ _=>rfl,T5 _,rfl,rfl,rfl⟩
theorem eG.trans{a b c:World}(h:eG a b)(k:eG b c):eG a c:=
 ⟨λx hx=>(k.heap x (aaA hx h.size)).trans (h.heap x hx),abP h.size k.size,k.os.trans h.os,k.tape.trans h.tape,k.output.trans h.output⟩
theorem cI.ce{ρ U':bG}{w w':World}{id:Nat}{bk:Bk}(g:iA ρ w U' w')(hid:id<ρ.n)(hb:bk≠.aR->((∃esz elems,bk= .row esz elems)->0<(ρ.aH (.aj id)).cap)->w'.heap[(ρ.aH (.aj id)).b]? =w.heap[(ρ.aH (.aj id)).b]?)(h:cI ρ w id bk):cI U' w' id bk:=by
 have hl:U'.aH (.aj id)=ρ.aH (.aj id):=g.aH (.aj id) hid;cases bk with
 |aR=>trivial
 |var cs=>
  obtain⟨cur,hc,hd⟩:=h;refine⟨cur,by rw[hl];exact hc.dB (hb aC (by rintro⟨_,_,e⟩;cases e)),λj c hj=>?_⟩
  obtain⟨u,hu,cu⟩:=hd j c hj;exact⟨u,by rw[hl];exact hu,cu.ce g aC⟩
 |row esz elems=>
  obtain⟨h2,h3,h4,h5,bW⟩:=h;refine⟨by rw[hl];exact h2,by rw[hl];exact h3,by rw[hl];exact h4,h5,λcH=>?_⟩
  rw[hl]at cH;obtain⟨cur,hc,h1,h6⟩:=bW cH;refine⟨cur,by rw[hl];exact hc.dB (hb aC λ_=>cH),by rw[hl];exact h1,λi cs j c hi hj=>?_⟩
  obtain⟨u,hu,cu⟩:=h6 i cs j c hi hj;exact⟨u,by rw[hl];exact hu,cu.ce g (by rintro j9 i' j' e;cases e;exact hid)⟩
 |mp es=>
  obtain⟨br,clock,hc,h1,h2⟩:=h;refine⟨br,clock,⟨by rw[hl,hb aC (by rintro⟨_,_,e⟩;cases e)];exact hc.1,hc.2⟩,h1,λi e hi=>?_⟩
  obtain⟨e',mD,hk,hd⟩:=h2 i e hi;exact⟨e',mD,hk,hd.ce g⟩
 |it cur left=>
  obtain⟨mb,seen,ck,br,h2,h3,h4,h5,h6⟩:=h;exact⟨mb,seen,ck,br,by rw[hl,hb aC (by rintro⟨_,_,e⟩;cases e)];exact h2,by rw[hl];exact h3,g.S _ h4,by rw[g.heap mb h4];exact h5,h6⟩
 |mo esz es so=>
  obtain⟨br,clock,hc,⟨h1,h2⟩,h3⟩:=h;refine⟨br,clock,⟨by rw[hl,hb aC (by rintro⟨_,_,e⟩;cases e)];exact hc.1,hc.2⟩,⟨h1,λi e hi=>?_⟩,h3⟩
  obtain⟨e',mD,hk,hp,hd⟩:=h2 i e hi;exact⟨e',mD,hk,hp,hd.ce g (λa b c hh=>by cases hh;exact hid)⟩
 |iw mid gZ seen=>
  obtain⟨h1,h2,s,h3,h4⟩:=h;exact⟨aaA h1 g.n,by rw[hl];exact h2,s,by rw[hl,hb aC (by rintro⟨_,_,e⟩;cases e),g.aH (.aj mid) h1];exact h3,h4⟩
theorem qv.ce{ρ U':bG}{w w':World}(g:iA ρ w U' w'){l:vH}{esz:Nat}{elems:List (List Dt)}(hb:w'.heap[l.b]? =w.heap[l.b]?)(h:qv ρ w l esz elems):qv U' w' l esz elems:=by
 obtain⟨cur,hc,h1,h2,h3⟩:=h;refine⟨cur,hc.dB hb,h1,h2,λi cs j d hi hj=>?_⟩
 obtain⟨u,hu,hd⟩:=h3 i cs j d hi hj;exact⟨u,hu,hd.mono g.S g.heap⟩
theorem ax.eK{ρ:bG}{m:Mem}{w:World}(hM:ax ρ m w){id:Nat}{bk:Bk}(h:m[id]? =some bk):id<ρ.n:=by rw[hM.n];exact(JJ.1 h).1
theorem ax.Rr{ρ:bG}{m:Mem}{w w':World}{bk:Bk}{l:vH}(hM:ax ρ m w)(hw:eG w w')(G7:Live (ρ.push l) (m++ [bk]) (.aj ρ.n)->w.heap.size<=l.b/\l.b<w'.heap.size)(c9:cI (ρ.push l) w' m.length bk)(hf:bk.Am):ax (ρ.push l) (m++ [bk]) w'/\Ext ρ m w (ρ.push l) (m++ [bk]) w':=by
 have hn:=hM.n;have g:iA ρ w (ρ.push l) w':=⟨by simp[bG.push],λk hk=>ρ.eL l hk,λb hb=>hb,λb hb=>hw.heap b (hM.S b hb)⟩
 have get:∀{id:Nat}{b:Bk},(m++ [bk])[id]? =some b->(id<ρ.n/\m[id]? =some b)\/(id=ρ.n/\b=bk):=by
  intro id b hb;rcases aaf id m.length with h|h
  .exact .inl ⟨om,by rwa [YN h]at hb⟩
  .rw[Xi h]at hb;have:id-m.length=0:=by
    rcases abz (id-m.length)with h0|h0
    .exact h0
    .rw[aaz (by simp;omega)]at hb;cases hb
   rw[this]at hb;exact .inr ⟨om,by simpa using hb.symm⟩
 have d8:∀{id i j esz elems},dP (m++ [bk]) id i j esz elems->id<ρ.n/\dP m id i j esz elems:=by
  rintro id i j esz elems ⟨b,hb,ho⟩;rcases get hb with⟨aD,hb⟩|⟨_,rfl⟩
  .exact⟨aD,b,hb,ho⟩
  .cases ho with
   |row hi hj=>exact absurd rfl (hf _ _ _ _ hi hj _ _)
   |mo hi=>exact absurd rfl (hf _ (Sj hi) _)
 have dn:∀k,Live (ρ.push l) (m++ [bk]) k->(k.id<ρ.n/\Live ρ m k)\/k= .aj ρ.n:=by
  intro k hk;cases k with
  |aj id=>
   obtain⟨b,hb,du,bc⟩:=hk;rcases get hb with⟨aD,hb⟩|⟨rfl,_⟩
   .rw[ρ.eL l (k:= .aj id) aD]at bc;exact .inl ⟨aD,b,hb,du,bc⟩
   .exact .inr rfl
  |sub id i j=>
   obtain⟨⟨esz,elems,ho⟩,bc⟩:=hk;obtain⟨aD,ho⟩:=d8 ho;rw[ρ.eL l (k:= .sub id i j) aD]at bc;exact .inl ⟨aD,⟨esz,elems,ho⟩,bc⟩
 have Ap:(ρ.push l).aH (.aj ρ.n)=l:=ρ.fT l;refine⟨⟨by simp[bG.push,hn],λb hb=>aaA (hM.S b hb) hw.size,?_,?_,?_,?_⟩,⟨by simp[bG.push],λid hid=>ρ.eL l hid,λb hb=>hb,λb hb=>.inl hb,?_,?_,hw.size,hw.os,hw.tape,hw.output⟩⟩
 .intro k hk;rcases dn k hk with⟨aD,hk⟩|rfl
  .rw[ρ.eL l aD];exact⟨aaA (hM.aP k hk).1 hw.size,(hM.aP k hk).2⟩
  .rw[Ap];exact⟨(G7 hk).2,λhs=>by have:=hM.S _ hs;have:=(G7 hk).1;omega⟩
 .intro k k' hk fS he;rcases dn k hk with⟨aD,hk⟩|rfl<;>rcases dn k' fS with⟨oD,fS⟩|rfl
  .rw[ρ.eL l aD,ρ.eL l oD]at he;exact hM.inj k k' hk fS he
  .rw[ρ.eL l aD,Ap]at he;have:=(hM.aP k hk).1;have:=(G7 fS).1;omega
  .rw[ρ.eL l oD,Ap]at he;have:=(hM.aP k' fS).1;have:=(G7 hk).1;omega
  .rfl
 .intro id b hb;rcases get hb with⟨aD,hb⟩|⟨rfl,rfl⟩
  .exact(hM.bk id b hb).ce g aD λdu bc=>hw.heap _ (hM.aP (.aj id) ⟨b,hb,du,bc⟩).1
  .rw[hn];exact c9
 .intro id i j esz elems ho bc;obtain⟨aD,ho⟩:=d8 ho;rw[ρ.eL l (k:= .sub id i j) aD]at bc|-;exact(hM.d5 id i j esz elems ho bc).ce g (hw.heap _ (hM.aP (.sub id i j) ⟨⟨esz,elems,ho⟩,bc⟩).1)
 .intro k hk;rcases dn k hk with⟨aD,hk⟩|rfl
  .exact .inr ⟨k,hk,(by rw[ρ.eL l aD])⟩
  .exact .inl (by rw[Ap];exact(G7 hk).1)
 .intro b hb _;exact hw.heap b hb
theorem ax.push{ρ:bG}{m:Mem}{w w':World}{bk:Bk}{l:vH}(hM:ax ρ m w)(hw:eG w w')(h1:w.heap.size<=l.b)(h2:l.b<w'.heap.size)(c9:cI (ρ.push l) w' m.length bk)(hf:bk.Am):ax (ρ.push l) (m++ [bk]) w'/\Ext ρ m w (ρ.push l) (m++ [bk]) w':=
 hM.Rr hw (λ_=>⟨h1,h2⟩) c9 hf
structure eM(w w':World)(g:Nat):Prop where
 heap:∀b,b≠g->w'.heap[b]? =w.heap[b]?
 size:w'.heap.size=w.heap.size
 os:w'.os=w.os
 tape:w'.tape=w.tape
 output:w'.output=w.output
theorem ax.KT{ρ:bG}{m:Mem}{w w':World}{id:Nat}{bk yS:Bk}(hM:ax ρ m w)(hid:m[id]? =some bk)(bX:Live ρ m (.aj id))(hw:eM w w' (ρ.aH (.aj id)).b)(c9:iA ρ w ρ w'->cI ρ w' id yS)(jW:∀i j esz e,dP (m.set id yS) id i j esz e->dP m id i j esz e):ax ρ (m.set id yS) w'/\Ext ρ m w ρ (m.set id yS) w':=by
 have aD:id<m.length:=(JJ.1 hid).1;have hS:=(hM.aP _ bX).2;have g:iA ρ w ρ w':=⟨T5 _,λ_ _=>rfl,λ_ h=>h,λb hb=>hw.heap b λe=>hS (e▸hb)⟩
 have get:∀{k:Nat}{b:Bk},(m.set id yS)[k]? =some b->(k≠id/\m[k]? =some b)\/(k=id/\b=yS):=by
  intro k b hb;by_cases hk:k=id
  .subst hk;rw[SC aD]at hb;exact .inr ⟨rfl,by simpa using hb.symm⟩
  .rw[Xg (Ne.symm hk)]at hb;exact .inl ⟨hk,hb⟩
 have d8:∀{k i j esz e},dP (m.set id yS) k i j esz e->dP m k i j esz e:=by
  intro k i j esz e ho;by_cases hk:k=id
  .subst hk;exact jW i j esz e ho
  .obtain⟨b,hb,ho⟩:=ho;rw[Xg (Ne.symm hk)]at hb;exact⟨b,hb,ho⟩
 have dn:∀k,Live ρ (m.set id yS) k->Live ρ m k:=by
  intro k hk;cases k with
  |aj k=>
   obtain⟨b,hb,hn,bc⟩:=hk;rcases get hb with⟨_,hb⟩|⟨rfl,_⟩
   .exact⟨b,hb,hn,bc⟩
   .exact bX
  |sub k i j=>
   obtain⟨⟨esz,e,ho⟩,bc⟩:=hk;exact⟨⟨esz,e,d8 ho⟩,bc⟩
 refine⟨⟨by simp[hM.n],λb hb=>by rw[hw.size];exact hM.S b hb,λk hk=>by rw[hw.size];exact hM.aP k (dn k hk),λk k' hk fS=>hM.inj k k' (dn k hk) (dn k' fS),?_,?_⟩,
  ⟨T5 _,λ_ _=>rfl,λ_ h=>h,λ_ h=>.inl h,λk hk=>.inr ⟨k,dn k hk,rfl⟩,λb _ hk=>hw.heap b λe=>hk _ bX e.symm,by rw[hw.size];exact T5 _,hw.os,hw.tape,hw.output⟩⟩
 .intro k b hb;rcases get hb with⟨Vu,hb⟩|⟨rfl,rfl⟩
  .refine(hM.bk k b hb).ce g (hM.eK hb) λhn bc=>hw.heap _ λe=>?_
   have:=hM.inj (.aj k) (.aj id) ⟨b,hb,hn,bc⟩ bX e;injection this with this
   exact Vu this
  .exact c9 g
 .intro k i j esz e ho bc;have e8:=d8 ho;refine(hM.d5 k i j esz e e8 bc).ce g (hw.heap _ λhe=>?_)
  have:=hM.inj (.sub k i j) (.aj id) ⟨⟨esz,e,e8⟩,bc⟩ bX he;cases this
theorem bi.cut{ρ:bG}{w:World}{pos:Option (Nat×Nat×Nat)}{c:CC}{v:Value}{n:Nat}(h:bi ρ w pos c v)(hi:c.dt n):bi {ρ with n:=n} w pos c v:=by
 cases c<;>simp only[bi,CC.dt]at h hi|-
 case ptr=>exact⟨hi,h.2⟩
 case nv=>exact⟨hi,h.2⟩
 case row=>exact⟨hi,h.2⟩
 case map=>exact⟨hi,h.2⟩
 case fn=>exact⟨hi,h.2⟩
 all_goals exact h
theorem df.cut{ρ:bG}{w:World}{r:RV}{v:Value}{n:Nat}(h:df ρ w r v)(hi:r.dt n):df {ρ with n:=n} w r v:=by
 cases r with
 |one c=>exact bi.cut h hi
 |agg cs=>
  obtain⟨vs,hv,hl,hc⟩:=h;exact⟨vs,hv,hl,λi c hj=>let⟨u,hu,hd⟩:=hc i c hj;⟨u,hu,hd.cut (hi c (Sj hj))⟩⟩
theorem bZ.cut{ρ:bG}{w:World}{c:CV}{v:Value}{n:Nat}(h:bZ ρ w c v)(hi:c.dt n):bZ {ρ with n:=n} w c v:=by
 cases c with
 |aF=>trivial
 |undef=>exact h
 |rv r=>exact df.cut h hi
 |bz rs=>
  obtain⟨vs,hv,hl,hc⟩:=h;exact⟨vs,hv,hl,λi c hj=>let⟨u,hu,hd⟩:=hc i c hj;⟨u,hu,hd.cut (hi c (Sj hj))⟩⟩
theorem cI.cut{ρ:bG}{w:World}{id:Nat}{bk:Bk}{n:Nat}(h:cI ρ w id bk)(hi:bk.dt n):cI {ρ with n:=n} w id bk:=by
 cases bk with
 |aR=>trivial
 |var cs=>
  obtain⟨cur,hc,hd⟩:=h;exact⟨cur,hc,λj c hj=>let⟨u,hu,cu⟩:=hd j c hj;⟨u,hu,cu.cut (hi c (Sj hj))⟩⟩
 |row esz elems=>
  obtain⟨h2,h3,h4,h5,bW⟩:=h;refine⟨h2,h3,h4,h5,λcH=>?_⟩
  obtain⟨cur,hc,h1,h6⟩:=bW cH;exact⟨cur,hc,h1,λi cs j c h7 h8=>let⟨u,hu,cu⟩:=h6 i cs j c h7 h8;⟨u,hu,cu.cut (hi cs (Sj h7) c (Sj h8))⟩⟩
 |mp es=>
  obtain⟨br,clock,hc,h1,h2⟩:=h;exact⟨br,clock,hc,h1,λi e h7=>let⟨e',mD,hk,hd⟩:=h2 i e h7;⟨e',mD,hk,hd.cut (hi e (Sj h7))⟩⟩
 |it cur left=>exact h
 |mo esz es so=>
  obtain⟨br,clock,hc,⟨h1,h2⟩,h3⟩:=h;refine⟨br,clock,hc,⟨h1,λi e h7=>?_⟩,h3⟩
  obtain⟨e',mD,hk,hp,hd⟩:=h2 i e h7;refine⟨e',mD,hk,hp,hd.cut ?_⟩;have:=hi e (Sj h7);obtain⟨k,v⟩:=e;cases v<;>exact this
 |iw mid gZ seen=>exact⟨hi,h.2⟩
theorem mI.spec{m m':Mem}(h:mI m m'):m'.length<=m.length/\∀(i:Nat)b,m'[i]? =some b->∃b0,m[i]? =some b0/\(b=b0\/b= .aR):=by
 induction h with
 |nil m=>exact⟨aC,λi b hb=>by simp at hb⟩
 |cons h hm ih=>
  refine⟨by simp[ih.1],λi b hb=>?_⟩
  cases i with
  |zero=>simp at hb;subst hb;exact⟨_,aC,h⟩
  |succ i=>simpa using ih.2 i b (by simpa using hb)
theorem ax.Lv{ρ:bG}{m m':Mem}{w:World}(hM:ax ρ m w)(h:mI m m')(Lw:∀b,b∈m'->b.dt m'.length):
  ax {ρ with n:=m'.length} m' w/\(∀k,Live {ρ with n:=m'.length} m' k->Live ρ m k):=by
 have hs:=h.spec.2;have d8:∀{k i j esz e},dP m' k i j esz e->dP m k i j esz e:=by
  rintro k i j esz e ⟨b,hb,ho⟩;obtain⟨b0,IC,rfl|h0⟩:=hs k _ hb
  .exact⟨_,IC,ho⟩
  .subst h0;cases ho
 have dn:∀k,Live {ρ with n:=m'.length} m' k->Live ρ m k:=by
  intro k hk;cases k with
  |aj k=>
   obtain⟨b,hb,hn,bc⟩:=hk;obtain⟨b0,IC,rfl|h0⟩:=hs k _ hb
   .exact⟨_,IC,hn,bc⟩
   .exact absurd h0 hn
  |sub k i j=>
   obtain⟨⟨esz,e,ho⟩,bc⟩:=hk;exact⟨⟨esz,e,d8 ho⟩,bc⟩
 refine⟨⟨rfl,hM.S,λk hk=>hM.aP k (dn k hk),λk k' hk fS=>hM.inj k k' (dn k hk) (dn k' fS),λid b hb=>?_,λid i j esz e ho bc=>hM.d5 id i j esz e (d8 ho) bc⟩,dn⟩
 obtain⟨b0,IC,rfl|h0⟩:=hs id b hb
 .exact(hM.bk id _ IC).cut (Lw _ (Sj hb))
 .subst h0;trivial
structure bj(ρ:bG)(w:World)(aX:List CV)(tmps:Array Value):Prop where
 size:tmps.size=aX.length
 jD:∀(i:Nat)c,aX[i]? =some c->∃v,tmps[i]? =some v/\bZ ρ w c v
section
variable {P:Program} {ρ:bG} {m:Mem} {w:World} {aX:List CV} {a:Act}
theorem bj.get(hE:bj ρ w aX a.tmps)(t:Nat):bZ ρ w (kp aX t) (a.tmps.getD t Go.undef):=by
 rw[lS];cases h:aX[t]? with
 |none=>trivial
 |some c=>
  obtain⟨v,hv,hd⟩:=hE.jD t c h;simpa[abO,hv]using hd
theorem qC{v:Value}{c:CC}(h:vS v=some c):bi ρ w .none c v:=by
 unfold vS at h;split at h
 .simp at h;subst h;exact⟨none,rfl⟩
 .split at h
  .rename_i hp;simp at h;subst h;exact de.val _ hp
  .cases h
theorem aQ(hE:bj ρ w aX a.tmps){x:Operand}{x':X}(h:bn x=some x'):bZ ρ w (x'.ev aX) (a.eval x):=by
 cases x with
 |tmp t=>simp[bn]at h;subst h;exact hE.get t
 |const v=>
  simp only[bn,aau]at h;obtain⟨c,hc,rfl⟩:=h;exact qC hc
 |func f=>simp[bn]at h;subst h;exact⟨aC,rfl⟩
 |global g=>simp[bn]at h
theorem ff{t:TypeId}{n:Nat}(h:eE P t=some n):(sizeOf t).run P w= .ok n w:=by simp only[eE,aau]at h;obtain⟨i,hi,rfl⟩:=h;simp[sizeOf,typeInfo,hi]
theorem pw{t:TypeId}{b:Bool}(h:dW P t=some b):(isAgg t).run P w= .ok b w:=by
 simp only[dW,aau]at h;obtain⟨d,hd,rfl⟩:=h;simp only[isAgg,Sem.run_bind,run_underlying hd,Result.andThen_ok];cases d<;>rfl
theorem mg(b off j:Nat):(⟨b,off,none⟩:Addr).add j=⟨b,off+j,none⟩:=by
 unfold Addr.add;split<;>simp_all
def nA(ρ:bG)(w:World)(b off:Nat)(l:List CC):Prop:=
 ∀(i:Nat)c,l[i]? =some c->∃u,w.cell? ⟨b,off+i,none⟩=some u/\bi ρ w .none c u
theorem nA.Vv:∀{l:List CC}{b off:Nat},nA ρ w b off l->
  ∃vs:List Value,vs.length=l.length/\(∀j v,vs[j]? =some v->w.cell? ((⟨b,off,none⟩:Addr).add j)=some v)/\(∀(i:Nat)c,l[i]? =some c->∃u,vs[i]? =some u/\bi ρ w .none c u)
 | [],b,off,h=>⟨[],rfl,aC,aC⟩
 |c::l,b,off,h=>by
  obtain⟨u,hu,hd⟩:=h 0 c aC;obtain⟨vs,h1,h2,h3⟩:=nA.Vv (l:=l) (b:=b) (off:=off+1) (λi c hi=>by
   have:=h (i+1) c (by simpa using hi)
   rwa [show off+(i+1)=off+1+i by omega]at this)
  refine⟨u::vs,by simp[h1],λj v hj=>?_,λi c' hi=>?_⟩
  .rw[mg];cases j with
   |zero=>simp at hj;subst hj;simpa using hu
   |succ j=>
    have:=h2 j v (by simpa using hj)
    rw[mg]at this;rwa [show off+(j+1)=off+1+j by omega]
  .cases i with
   |zero=>simp at hi;subst hi;exact⟨u,aC,hd⟩
   |succ i=>simpa using h3 i c' (by simpa using hi)
theorem qD{t:TypeId}{agg:Bool}{n:Nat}{b off:Nat}{l:List CC}{cv:CV}(ha:dW P t=some agg)(hs:eE P t=some n)(hl:l.length=n)(hc:nA ρ w b off l)(hm:Ln agg l=some cv):∃v,(loadVar t ⟨b,off,none⟩).run P w= .ok v w/\bZ ρ w cv v:=by
 obtain⟨vs,h1,h2,h3⟩:=hc.Vv;unfold loadVar;simp only[Sem.run_bind,pw ha,Result.andThen_ok];cases agg with
 |true=>
  simp[Ln]at hm;subst hm;have hr:=run_loadCells_list (P:=P) w ⟨b,off,none⟩ vs h2;refine⟨.agg vs.toArray,?_,vs,rfl,h1,h3⟩;simp only[if_true,Sem.run_bind,ff hs,Result.andThen_ok,<-hl,<-h1,hr,Sem.run_pure]
 |false=>
  match l,hm with
  | [c],hm=>
   simp[Ln]at hm;subst hm;obtain⟨u,hu,hd⟩:=h3 0 c aC;have:=h2 0 u hu;rw[mg]at this;refine⟨u,?_,hd⟩;simp only[ab0,if_false,run_load];rw[show(⟨b,off,none⟩:Addr)=⟨b,off+0,none⟩ by simp,this]
theorem uy(hM:ax ρ m w){t:TypeId}{agg:Bool}{n:Nat}(ha:dW P t=some agg)(hs:eE P t=some n){av:CV}{v:Value}{K:CV->Prop}(h:vN aX m agg n av K)(hd:bZ ρ w av v):∃ad u cv,v= .pointer (some ad)/\(loadVar t ad).run P w= .ok u w/\K cv/\bZ ρ w cv u:=by
 unfold vN at h;split at h
 .rename_i id j;obtain⟨aD,rfl⟩:=hd;obtain⟨bk,hb,h⟩:=aV.1 h;rw[aT]at hb;cases bk<;>simp only at h
  rename_i cs;obtain⟨l,hr,h⟩:=aV.1 h;obtain⟨cv,hm,hK⟩:=aV.1 h;obtain⟨hl,lJ⟩:=kW hr;obtain⟨cur,bW,cg⟩:=hM.bk id _ hb;have hc:nA ρ w (ρ.aH (.aj id)).b ((ρ.aH (.aj id)).ar+j) l:=by
   intro i c hi;have iY:i<n:=by rw[<-hl];exact(JJ.1 hi).1
   obtain⟨u,hu,cu⟩:=cg (j+i) c ((lJ i iY).trans hi);exact⟨u,by rw[bW.cell,<-hu,aaW],cu⟩
  obtain⟨u,cN,cu⟩:=qD ha hs hl hc hm;exact⟨_,u,cv,rfl,cN,hK,cu⟩
 .rename_i id esz i j;obtain⟨aD,rfl⟩:=hd;obtain⟨bk,hb,h⟩:=aV.1 h;rw[aT]at hb;cases bk<;>simp only at h
  rename_i oy elems;rcases cf.1 h with⟨he,g1⟩|⟨_,g1⟩
  case inr=>exact g1.elim
  have he:esz=oy:=aam he;subst he;obtain⟨cells,dG,g2⟩:=aV.1 g1;rw[aT]at dG;obtain⟨l,hr,g3⟩:=aV.1 g2;rcases cf.1 g3 with⟨jX,g4⟩|⟨_,g4⟩
  case inr=>exact g4.elim
  obtain⟨cv,hm,hK⟩:=aV.1 g4;obtain⟨hl,lJ⟩:=kW hr;obtain⟨h2,h3,h4,h5,BV⟩:=hM.bk id _ hb;have vy:=(JJ.1 dG).1;obtain⟨cur,bW,h1,cg⟩:=BV om;have hc:nA ρ w (ρ.aH (.aj id)).b ((ρ.aH (.aj id)).ar+i*esz+j) l:=by
   intro k c hi;have iY:k<n:=by rw[<-hl];exact(JJ.1 hi).1
   obtain⟨u,hu,cu⟩:=cg i cells (j+k) c dG ((lJ k iY).trans hi);exact⟨u,by rw[bW.cell,<-hu,aaW _ j k],cu.Vt (vZ jX c (Sj hi))⟩
  obtain⟨u,cN,cu⟩:=qD ha hs hl hc hm;exact⟨_,u,cv,rfl,cN,hK,cu⟩
 .rename_i ds;obtain⟨b,off,rfl,hS,cg⟩:=hd;obtain⟨l,hr,h⟩:=aV.1 h;obtain⟨cv,hm,hK⟩:=aV.1 h;obtain⟨hl,lJ⟩:=vY hr;have hc:nA ρ w b off l:=by
   intro i c hi;have iY:i<n:=by rw[<-hl];exact(JJ.1 hi).1
   obtain⟨d,u6,yd⟩:=lJ i iY;rw[hi]at yd;simp at yd;subst yd;exact cg i d u6
  obtain⟨u,cN,cu⟩:=qD ha hs hl hc hm;exact⟨_,u,cv,rfl,cN,hK,cu⟩
 .exact h.elim
def db(P:Program)(s:Sem Next)(ρ:bG)(m:Mem)(w:World)(K:CV->Mem->Prop):Prop:=
 ∃nx v w' cv m' U',s.run P w= .ok nx w'/\(nx= .value v\/(nx= .skip/\v=Go.undef))/\K cv m'/\ax U' m' w'/\bZ U' w' cv v/\Ext ρ m w U' m' w'
theorem db.pure{s:Sem Next}{v:Value}{cv:CV}{K:CV->Mem->Prop}(hM:ax ρ m w)(hr:s.run P w= .ok (.value v) w)(hK:K cv m)(hd:bZ ρ w cv v):db P s ρ m w K:=
 ⟨_,v,w,cv,m,ρ,hr,.inl rfl,hK,hM,hd,Ext.refl _ _ _⟩
theorem bC{v x:Value}(h:bZ ρ w (.rv (.one (.ah (.val x)))) v)(hx:x≠.slice none 0 0:=by first|(intro hh;cases hh;done)|assumption|simp):v=x/\cn x=true:=by
 cases h with
 |val v h=>exact⟨rfl,h⟩
 |no a=>exact absurd rfl hx
theorem cz{v:Value}(h:cn v=true):bZ ρ w (.rv (.one (.ah (.val v)))) v:=de.val v h
theorem Pv{t:TypeId}(ht:P.underlying t=some .bool)(neg:Bool)(a b:Bool):
  (binOp (if neg then .neq else .eql) t (.bool a) (.bool b)).run P w= .ok (.bool (match neg with|true=>!(a==b)|false=>a==b)) w:=by
 have h:∀d,(Op.equalIn (d+1) t (.bool a) (.bool b)).run P w= .ok (a==b) w:=λd=>by rw[Op.equalIn];simp[run_underlying ht]
 have h2:(Op.equal t (.bool a) (.bool b)).run P w= .ok (a==b) w:=h 9999;cases neg<;>simp[binOp,h2]
theorem Ey{op:BinOp}{x y v:Value}(h:Iy op x y=some v){t:TypeId}:(binOp op t x y).run P w= .ok v w/\cn v=true:=by
 cases x<;>cases y<;>simp only[Iy]at h<;>try(cases h;done)
 case int.int k a k' b=>
  by_cases hk:k=k'
  .subst hk;cases op<;>simp only[decide_true]at h
   case shl=>
    by_cases hb:b<0
    .simp[hb]at h
    .simp[hb]at h;subst h;simp[binOp,Op.shift,hb,cn]
   case shr=>
    by_cases hb:b<0
    .simp[hb]at h
    .simp[hb]at h;subst h;simp[binOp,Op.shift,hb,cn]
   case quo=>
    by_cases hb:b=0
    .simp[hb]at h
    .simp[hb]at h;subst h;simp[binOp,Op.intDiv,hb,cn]
   case rem=>
    by_cases hb:b=0
    .simp[hb]at h
    .simp[hb]at h;subst h;simp[binOp,Op.intDiv,hb,cn]
   all_goals first
    |(cases h;done)
    |(simp only[aat]at h;subst h;simp[binOp,Op.intArith,Op.intBits,Op.intCmp,cn])
  .cases op<;>simp only[hk,decide_false]at h
   case shl=>
    by_cases hb:b<0
    .simp[hb]at h
    .simp[hb]at h;subst h;simp[binOp,Op.shift,hb,cn]
   case shr=>
    by_cases hb:b<0
    .simp[hb]at h
    .simp[hb]at h;subst h;simp[binOp,Op.shift,hb,cn]
   all_goals(cases h;done)
 case string.string a b=>
  cases op<;>simp only at h<;>try(cases h;done)
  case add=>
   by_cases hb:((a.size+b.size:Nat):Int)>IntKind.i64.max
   .rw[decide_eq_true hb]at h;cases h
   .rw[decide_eq_false hb]at h;simp only[aat]at h;subst h;refine⟨?_,rfl⟩;simp only[binOp,Op.stringOp];rw[if_neg hb];rfl
  all_goals(simp only[aat]at h;subst h;simp[binOp,Op.stringOp,cn])
theorem ID{op:UnOp}{x v:Value}(h:Yg op x=some v):(Op.unary op x).run P w= .ok v w/\cn v=true:=by
 cases x<;>simp only[Yg]at h<;>try(cases h;done)
 all_goals cases op<;>simp only at h<;>try(cases h;done)
 all_goals(simp only[aat]at h;subst h;simp[Op.unary,Op.intArith,cn])
theorem uz{op:BinOp}{t:TypeId}{x y:Operand}{a b:Value}(ha:cn a=true)(hn:a≠.nilIface):(eqGuard op t x y a b).run P w= .ok () w:=by
 unfold eqGuard;cases op<;>simp
 all_goals(cases a<;>simp_all[cn])
end
section
variable {P:Program} {ρ:bG} {m:Mem} {w:World} {aX:List CV} {a:Act} {K:CV->Mem->Prop}
theorem jK{cv:CV}{v:Value}{cs:List CC}(h:cellsOf cv=some cs)(hd:bZ ρ w cv v):
  v.cells.size=cs.length/\(∀(i:Nat)c,cs[i]? =some c->∃u,v.cells[i]? =some u/\bi ρ w .none c u)/\(∀u∈v.cells.toList,u.oneCell'=true):=by
 unfold cellsOf at h;split at h
 .rename_i c;simp at h;subst h;have h1:v.oneCell'=true:=bi.one hd;have hc:v.cells= #[v]:=by cases v<;>first|rfl|simp[Value.oneCell']at h1
  refine⟨by simp[hc],λi c' hi=>?_,by rw[hc];simpa using h1⟩
  cases i with
  |zero=>simp at hi;subst hi;exact⟨v,by simp[hc],hd⟩
  |succ i=>simp at hi
 .rename_i e7;simp at h;subst h;obtain⟨vs,rfl,hl,hc⟩:=hd;refine⟨by simp[Value.cells,hl],λi c hi=>?_,λu hu=>?_⟩
  .obtain⟨u,hu,cu⟩:=hc i c hi;exact⟨u,by simpa[Value.cells]using hu,cu⟩
  .simp only[Value.cells]at hu;obtain⟨i,hi,rfl⟩:=acO hu;have eH:i<vs.length:=by simpa using hi
   obtain⟨u,Vw,cu⟩:=hc i (e7[i]'(by omega)) (vl om)
   rw[vl eH]at Vw;simp at Vw;simpa[Vw]using cu.one
 .cases h
theorem fg:∀{vs:List Value}{cs:List CC},mF vs=some cs->vs.length=cs.length/\∀(i:Nat)c,cs[i]? =some c->∃u,vs[i]? =some u/\bi ρ w .none c u
 | [],cs,h=>by simp[mF]at h;subst h;simp
 |v::r,cs,h=>by
  simp only[mF,T3,OJ]at h;obtain⟨c,hc,l,hl,h⟩:=h;simp at h;subst h;obtain⟨h1,h2⟩:=fg hl;refine⟨by simp[h1],λi c' hi=>?_⟩
  cases i with
  |zero=>simp at hi;subst hi;exact⟨v,aC,qC hc⟩
  |succ i=>simpa using h2 i c' (by simpa using hi)
theorem Cf(hM:ax ρ m w){cs:List CC}{cells:Array Value}{ty:TypeId}{w':World}(hw:w'=w.alloc (.cells cells ty)\/w'=w.drew.alloc (.cells cells ty))(hd:∀(i:Nat)c,cs[i]? =some c->∃u,cells[i]? =some u/\bi ρ w .none c u):
  ∃U',ax U' (m++ [.var cs]) w'/\Ext ρ m w U' (m++ [.var cs]) w'/\bZ U' w' (.rv (.one (.ptr m.length 0))) (.pointer (some ⟨w.heap.size,0,none⟩)):=by
 have Rs:eG w w':=by
  rcases hw with rfl|rfl
  .exact eG.alloc w _
  .exact(eG.drew w).trans (eG.alloc w.drew _)
 have bW:mf True w' w.heap.size cells:=by
  rcases hw with rfl|rfl
  .exact mf.new w cells ty
  .exact mf.new w.drew cells ty
 have dj:w.heap.size<w'.heap.size:=bW.lt;let l:vH:=⟨w.heap.size,0,0,0⟩;have hn:=hM.n;have bM:(ρ.push l).aH (.aj m.length)=l:=by rw[<-hn];exact ρ.fT l
 have g:iA ρ w (ρ.push l) w':=⟨by simp[bG.push],λk hk=>ρ.eL l hk,λb hb=>hb,λb hb=>Rs.heap b (hM.S b hb)⟩
 have hb:cI (ρ.push l) w' m.length (.var cs):=by
  refine⟨cells,by rw[bM];exact bW,λj c hj=>?_⟩
  obtain⟨u,hu,cu⟩:=hd j c hj;exact⟨u,by rw[bM];simpa[l]using hu,cu.ce g aC⟩
 obtain⟨h1,h2⟩:=hM.push (l:=l) Rs (T5 _) dj hb trivial;refine⟨_,h1,h2,by simp[bG.push,hn],?_⟩
 rw[bM]
theorem Lx(hM:ax ρ m w){esz cap:Nat}{elems:List (List CC)}{cells:Array Value}{ty:TypeId}{w':World}(hw:w'=w.alloc (.cells cells ty)\/w'=w.drew.alloc (.cells cells ty))(dj:cap*esz<=cells.size)(hlen:elems.length<=cap)(bc:cap<=maxLen)(nV:∀cs,cs∈elems->cs.length=esz)(hd:∀(i:Nat)cs(j:Nat)c,elems[i]? =some cs->cs[j]? =some c->∃u,cells[i*esz+j]? =some u/\bi ρ w .none c u):
  ∃U',ax U' (m++ [.row esz elems]) w'/\Ext ρ m w U' (m++ [.row esz elems]) w'/\
   bZ U' w' (.rv (.one (.row m.length esz 0 none))) (.slice (some ⟨w.heap.size,0,none⟩) elems.length cap):=by
 have Rs:eG w w':=by
  rcases hw with rfl|rfl
  .exact eG.alloc w _
  .exact(eG.drew w).trans (eG.alloc w.drew _)
 have bW:mf (esz=1) w' w.heap.size cells:=by
  rcases hw with rfl|rfl
  .exact mf.new w cells ty
  .exact mf.new w.drew cells ty
 have aD:w.heap.size<w'.heap.size:=bW.lt;let l:vH:=⟨w.heap.size,0,elems.length,cap⟩;have hn:=hM.n;have bM:(ρ.push l).aH (.aj m.length)=l:=by rw[<-hn];exact ρ.fT l
 have g:iA ρ w (ρ.push l) w':=⟨by simp[bG.push],λk hk=>ρ.eL l hk,λb hb=>hb,λb hb=>Rs.heap b (hM.S b hb)⟩
 have hb:cI (ρ.push l) w' m.length (.row esz elems):=by
  refine⟨by rw[bM],by rw[bM];exact hlen,by rw[bM];exact bc,nV,λ_=>⟨cells,by rw[bM];exact bW,by rw[bM];simpa[l]using dj,λi cs j c hi hj=>?_⟩⟩
  obtain⟨u,hu,cu⟩:=hd i cs j c hi hj;exact⟨u,by rw[bM];simpa[l]using hu,(cu.ce g aC).wa _⟩
 obtain⟨h1,h2⟩:=hM.push (l:=l) Rs (T5 _) aD hb (λi cs j c hi hj=>by obtain⟨u,hu,cu⟩:=hd i cs j c hi hj;exact cu.Ao)
 refine⟨_,h1,h2,by simp[bG.push,hn],?_⟩
 rw[bM];refine⟨aC,aC,hlen,bc,_,rfl,λ_=>?_⟩
 simp[l]
theorem Cg(hM:ax ρ m w){t:TypeId}{z:List CC}(hz:d6 P t=some z)(h:step P (.alloc z) aX m K):
  db P (do pure (Next.value (<-Instr.alloc t true (.tuple #[])))) ρ m w K:=by
 simp only[d6,T3,OJ]at hz;obtain⟨i,hi,v,hv,hc⟩:=hz;obtain⟨hl,hd⟩:=fg (ρ:=ρ) (w:=w) hc;obtain⟨U',h1,h2,h3⟩:=Cf hM (ty:=t) (cells:=v.cells) (.inl rfl) (λi c hi=>by
  obtain⟨u,hu,cu⟩:=hd i c hi;exact⟨u,by simpa using hu,cu⟩)
 simp only[step,gC,b7]at h;refine⟨_,_,_,_,_,U',?_,.inl rfl,h,h1,h3,h2⟩;simp[Instr.alloc,zeroValue,typeInfo,hi,hv,newVar,newRow]
theorem IE(hM:ax ρ m w)(hE:bj ρ w aX a.tmps){t:TypeId}{x:Operand}{x':X}(hx:bn x=some x')(h:step P (.box x') aX m K):
  db P (do pure (Next.value (<-Instr.box t (a.eval x)))) ρ m w K:=by
 simp only[step]at h;obtain⟨cs,eC,h⟩:=aV.1 h;obtain⟨hl,hd,_⟩:=jK eC (aQ hE hx);obtain⟨U',h1,h2,h3⟩:=Cf hM (ty:=t) (cells:=(a.eval x).cells) (.inl rfl) hd;simp only[gC,b7]at h;refine⟨_,_,_,_,_,U',?_,.inl rfl,h,h1,h3,h2⟩;simp[Instr.box,newVar,newRow]
theorem th(off:Nat):∀(vs:List Value)(k:Nat)(cells:Array Value),
  let r:=(vs.zipIdx k).foldl (λ(cs:Array Value)(p:Value×Nat)=>cs.setIfInBounds (off+p.2) p.1) cells
  r.size=cells.size/\(off+k+vs.length<=cells.size->∀i,r[i]? =if off+k<=i/\i<off+k+vs.length then vs[i-(off+k)]? else cells[i]?)
 | [],k,cells=>by simp;intro _ i h1 h2;omega
 |v::r,k,cells=>by
  simp only[List.zipIdx_cons,List.foldl_cons];obtain⟨h1,h2⟩:=th off r (k+1) (cells.setIfInBounds (off+k) v);refine⟨by rw[h1];simp,λhle i=>?_⟩
  simp only[aaj]at hle;rw[h2 (by simp;omega) i]
  by_cases hc:off+(k+1)<=i/\i<off+(k+1)+r.length
  .rw[if_pos hc,if_pos (by simp;omega)]
   rw[show i-(off+k)=(i-(off+(k+1)))+1 by omega]
   simp
  .rw[if_neg hc];by_cases he:i=off+k
   .subst he;rw[if_pos aC];simp only[acA,ack];rw[ach];simp;omega
   .rw[if_neg (by simp;omega),ach,if_neg om]
def Cells(ρ:bG)(w:World)(cs:List CC)(cells:Array Value):Prop:=
 cells.size=cs.length/\∀(i:Nat)c,cs[i]? =some c->∃u,cells[i]? =some u/\bi ρ w .none c u
theorem Ch{place:Nat->Option (Nat×Nat)}{i off sz:Nat}{v:Value}{rest:List (Nat×Value)}{z z' cs:List CC}{cells:Array Value}(hp:place i=some (off,sz))(hz:Cells ρ w z cells)(hv:v.cells.size=sz)(im:cs.length=sz)(hd:∀(i:Nat)c,cs[i]? =some c->∃u,v.cells[i]? =some u/\bi ρ w .none c u)(hw:gJ z off cs=some z'):∃fm,Instr.fill place cells ((i,v)::rest)=Instr.fill place fm rest/\Cells ρ w z' fm:=by
 obtain⟨h1,h2,h3⟩:=jJ hw;refine⟨(v.cells.zipIdx.foldl (λcs(p:Value×Nat)=>cs.setIfInBounds (off+p.2) p.1) cells),?_,?_⟩
 .rw[Instr.fill,hp];simp only;rw[if_neg (by rw[hz.1];simp;omega)]
 .have hf:=th off v.cells.toList 0 cells;simp only[acB]at hf;have he:v.cells.zipIdx.foldl (λcs(p:Value×Nat)=>cs.setIfInBounds (off+p.2) p.1) cells=(v.cells.toList.zipIdx 0).foldl (λ(cs:Array Value)(p:Value×Nat)=>cs.setIfInBounds (off+p.2) p.1) cells:=by rw[<-Array.foldl_toList];simp
  rw[he];refine⟨by rw[hf.1,hz.1,h1],λk c hk=>?_⟩
  rw[hf.2 (by rw[hz.1];simp;omega) k]
  rw[h3 k]at hk;have hlen:v.cells.toList.length=cs.length:=by simp[hv,im]
  rw[hlen];by_cases hc:off<=k/\k<off+cs.length
  .rw[if_pos hc]at hk|-;obtain⟨u,hu,cu⟩:=hd _ c hk;exact⟨u,by simpa using hu,cu⟩
  .rw[if_neg hc]at hk|-;exact hz.2 k c hk
theorem uA(hE:bj ρ w aX a.tmps){fs:Array Field}{place:Nat->Option (Nat×Nat)}(i3:∀i f,fs[i]? =some f->∀n,eE P f.type=some n->place i=some (f.offset,n)):
  ∀{ps:List (Nat×Operand)}{ot:List (Nat×Nat×X)}{z z':List CC}{cells:Array Value},mG P fs ps=some ot->ow aX z ot=some z'->Cells ρ w z cells->
   ∃fm,Instr.fill place cells (ps.map λp=>(p.1,a.eval p.2))=some fm/\Cells ρ w z' fm
 | [],ot,z,z',cells,hp,hf,hz=>by simp[mG]at hp;subst hp;simp[ow]at hf;subst hf;exact⟨cells,rfl,hz⟩
 |(i,x)::r,ot,z,z',cells,hp,hf,hz=>by
  simp only[mG,T3,OJ]at hp;obtain⟨f,Y2,n,hn,x',hx,r',hr,hp⟩:=hp;simp at hp;subst hp;simp only[ow]at hf;split at hf
  .rename_i cs eC;split at hf
   .rename_i hlen;have hlen:cs.length=n:=aam hlen;split at hf
    .rename_i z1 O5;obtain⟨h1,h2,_⟩:=jK eC (aQ hE hx);obtain⟨SO,he,BW⟩:=Ch (rest:=r.map λp=>(p.1,a.eval p.2)) (i3 i f Y2 n hn) hz (h1.trans hlen) hlen h2 O5
     obtain⟨fm,mD,rA⟩:=uA hE i3 hr hf BW;exact⟨fm,by rw[aaJ,he,mD],rA⟩
    .cases hf
   .cases hf
  .cases hf
theorem uB(hE:bj ρ w aX a.tmps){sz:Nat}{place:Nat->Option (Nat×Nat)}(i3:∀i,place i=some (i*sz,sz)):
  ∀{ps:List (Nat×Operand)}{ot:List (Nat×Nat×X)}{z z':List CC}{cells:Array Value},kN sz ps=some ot->ow aX z ot=some z'->Cells ρ w z cells->
   ∃fm,Instr.fill place cells (ps.map λp=>(p.1,a.eval p.2))=some fm/\Cells ρ w z' fm
 | [],ot,z,z',cells,hp,hf,hz=>by simp[kN]at hp;subst hp;simp[ow]at hf;subst hf;exact⟨cells,rfl,hz⟩
 |(i,x)::r,ot,z,z',cells,hp,hf,hz=>by
  simp only[kN,T3,OJ]at hp;obtain⟨x',hx,r',hr,hp⟩:=hp;simp at hp;subst hp;simp only[ow]at hf;split at hf
  .rename_i cs eC;split at hf
   .rename_i hlen;have hlen:cs.length=sz:=aam hlen;split at hf
    .rename_i z1 O5;obtain⟨h1,h2,_⟩:=jK eC (aQ hE hx);obtain⟨SO,he,BW⟩:=Ch (rest:=r.map λp=>(p.1,a.eval p.2)) (i3 i) hz (h1.trans hlen) hlen h2 O5
     obtain⟨fm,mD,rA⟩:=uB hE i3 hr hf BW;exact⟨fm,by rw[aaJ,he,mD],rA⟩
    .cases hf
   .cases hf
  .cases hf
theorem Ez{t:TypeId}{z:List CC}(hz:d6 P t=some z):∃v,(zeroValue t).run P w= .ok v w/\Cells ρ w z v.cells:=by
 simp only[d6,T3,OJ]at hz;obtain⟨i,hi,v,hv,hc⟩:=hz;obtain⟨hl,hd⟩:=fg (ρ:=ρ) (w:=w) hc;refine⟨v,by simp[zeroValue,typeInfo,hi,hv],by simpa using hl,λi c hi=>?_⟩
 obtain⟨u,hu,cu⟩:=hd i c hi;exact⟨u,by simpa using hu,cu⟩
theorem G8{cs:List CC}{cells:Array Value}(h:Cells ρ w cs cells):bZ ρ w (.rv (.agg cs)) (.agg cells):=
 ⟨cells.toList,aC,by simpa using h.1,λi c hi=>let⟨u,hu,hd⟩:=h.2 i c hi;⟨u,by simpa using hu,hd⟩⟩
end
section
variable {P:Program} {ρ:bG} {m:Mem} {w:World} {aX:List CV} {a:Act} {K:CV->Mem->Prop}
theorem Ci{α β:Type}{f:α->Option β}:∀{l:List α}{r:List β},l.mapM f=some r->∀(i:Nat)x,l[i]? =some x->∃y,f x=some y/\r[i]? =some y
 | [],r,h,i,x,hx=>by simp at hx
 |a::l,r,h,i,x,hx=>by
  simp only[List.mapM_cons,T3,OJ,Option.pure_def]at h;obtain⟨y,hy,ys,hys,h⟩:=h;simp at h;subst h;cases i with
  |zero=>simp at hx;subst hx;exact⟨y,hy,aC⟩
  |succ i=>simpa using Ci hys i x (by simpa using hx)
theorem uC(hM:ax ρ m w)(hE:bj ρ w aX a.tmps){t:TypeId}{ps:Array (Nat×Operand)}{z:List CC}{ot:List (Nat×Nat×X)}(hz:d6 P t=some z)(hp:(∃fs,P.underlying t=some (.struct fs)/\(fs.toList.mapM (λf=>(P.info? f.type).map λi=>(f.offset,i.size))).isSome=true/\mG P fs ps.toList=some ot)\/
   (∃n e sz,P.underlying t=some (.array n e)/\eE P e=some sz/\kN sz ps.toList=some ot))(h:step P (.build z ot) aX m K):db P (do pure (Next.value (<-Instr.build t (ps.map λ(i,x)=>(i,a.eval x))))) ρ m w K:=by
 simp only[step]at h;obtain⟨z',hf,hK⟩:=aV.1 h;have Eb:=hz;simp only[d6,T3,OJ]at hz;obtain⟨i,hi,v,hv,hc⟩:=hz;obtain⟨hl,hd⟩:=fg (ρ:=ρ) (w:=w) hc;have dG:Cells ρ w z v.cells:=⟨by simpa using hl,λi c hi=>by
  obtain⟨u,hu,cu⟩:=hd i c hi;exact⟨u,by simpa using hu,cu⟩⟩
 have key:∃cells,P.built t (ps.map λ(i,x)=>(i,a.eval x)).toList=some cells/\Cells ρ w z' cells:=by
  rcases hp with⟨fs,hu,fN,Y3⟩|⟨n,e,sz,hu,dj,Y3⟩
  .obtain⟨places,i3⟩:=Option.isSome_iff_exists.1 fN;obtain⟨cells,h1,h2⟩:=uA hE (fs:=fs) (place:=λi=>places.toArray[i]?) (λi f Y2 n hn=>by
    obtain⟨y,hy,hr⟩:=Ci i3 i f (by simpa using Y2)
    simp only[eE,aau]at hn hy;obtain⟨i1,IF,rfl⟩:=hn;obtain⟨i2,eY,rfl⟩:=hy;rw[IF]at eY;cases eY;simpa using hr) Y3 hf dG
   refine⟨cells,?_,h2⟩;unfold Program.built;simp only[hi,hu,hv,i3];simpa using h1
  .obtain⟨cells,h1,h2⟩:=uB hE (sz:=sz) (place:=λi=>some (i*sz,sz)) (λi=>rfl) Y3 hf dG
   refine⟨cells,?_,h2⟩;simp only[eE,aau]at dj;obtain⟨ie,lT,rfl⟩:=dj;unfold Program.built;simp only[hi,hu,hv,lT];simpa using h1
 obtain⟨cells,hb,eC⟩:=key;refine db.pure hM (v:= .agg cells) ?_ hK (G8 eC);rw[Sem.run_bind,run_build w t _ cells hb];rfl
theorem EA(hM:ax ρ m w)(hE:bj ρ w aX a.tmps){t:TypeId}{x:Operand}{x':X}{agg:Bool}{n:Nat}(ha:dW P t=some agg)(hs:eE P t=some n)(hx:bn x=some x')(h:step P (.load agg n x') aX m K):db P (do pure (Next.value (<-Instr.loadAt t (a.eval x)))) ρ m w K:=by
 simp only[step]at h;obtain⟨ad,u,cv,hv,hr,hK,hd⟩:=uy hM ha hs h (aQ hE hx);refine db.pure hM (v:=u) ?_ hK hd;rw[hv];simp[Instr.loadAt,Instr.sureAddr,hr]
theorem nB{mk:Prop}(g o:Nat):∀(vs:List Value)(i:Nat)(cur:Array Value)(w:World),mf mk w g cur->o+i+vs.length<=cur.size->(∀v∈vs,v.oneCell'=true)->
  ∃w' gK,(storeCells ⟨g,o,none⟩ vs i).run P w= .ok () w'/\mf mk w' g gK/\eM w w' g/\gK.size=cur.size/\
   ∀k,gK[k]? =if o+i<=k/\k<o+i+vs.length then vs[k-(o+i)]? else cur[k]?
 | [],i,cur,w,hc,_,_=>⟨w,cur,rfl,hc,⟨λ_ _=>rfl,rfl,rfl,rfl,rfl⟩,rfl,λk=>by rw[if_neg aC]⟩
 |v::r,i,cur,w,hc,hl,h1=>by
  simp only[aaj]at hl;have hi:o+i<cur.size:=om;have jd:w.cell? ⟨g,o+i,none⟩=some cur[o+i]:=by rw[hc.cell];simp[hi]
  have Y4:=hc.qt hi;have lF:(store ((⟨g,o,none⟩:Addr).add i) v).run P w= .ok () (w.setCell ⟨g,o+i,none⟩ v):=by rw[mg,run_store P w _ v _ (h1 v aC),jd];simp[Y4]
  have BW:mf mk (w.setCell ⟨g,o+i,none⟩ v) g (cur.setIfInBounds (o+i) v):=by
   obtain⟨ty,fr,hb,hf⟩:=hc;refine⟨ty,fr,?_,by simpa using hf⟩
   simp[World.setCell,aaV,hb]
  have Aq:eM w (w.setCell ⟨g,o+i,none⟩ v) g:=⟨λb hb=>by simp[World.setCell,aaV,Ne.symm hb],aC,rfl,rfl,rfl⟩
  obtain⟨w',gK,hr,rA,ht,dj,hk⟩:=nB g o r (i+1) _ _ BW (by simp;omega) (λx hx=>h1 x (by simp[hx]))
  refine⟨w',gK,?_,rA,⟨λb hb=>(ht.heap b hb).trans (Aq.heap b hb),ht.size.trans Aq.size,ht.os,ht.tape,ht.output⟩,by simpa using dj,λk=>?_⟩
  .simp only[storeCells,Sem.run_bind,lF,Result.andThen_ok];exact hr
  .rw[hk k];simp only[aaj];by_cases hb:o+(i+1)<=k/\k<o+(i+1)+r.length
   .rw[if_pos hb,if_pos om,show k-(o+i)=(k-(o+(i+1)))+1 by omega]
    simp
   .rw[if_neg hb,ach];by_cases he:o+i=k
    .subst he;rw[if_pos rfl,if_pos om];simp
    .rw[if_neg he,if_neg om]
theorem Cj(hM:ax ρ m w)(hE:bj ρ w aX a.tmps){t:TypeId}{n:Nat}{p x:Operand}{p' x':X}(hs:eE P t=some n)(Ha:n≠0)(hp:bn p=some p')(hx:bn x=some x')(h:step P (.store n p' x') aX m K):db P (do Instr.storeAt t (a.eval p) (a.eval x);pure Next.skip) ρ m w K:=by
 simp only[step]at h;obtain⟨xs,Y5,h⟩:=aV.1 h;rcases cf.1 h with⟨hn,h⟩|⟨_,h⟩
 case inr=>exact h.elim
 have hn:xs.length=n:=aam hn;obtain⟨c1,c2,c3⟩:=jK Y5 (aQ hE hx);have Yj:=aQ hE hp;generalize a.eval p=pv at Yj;generalize p'.ev aX=pc at Yj h;generalize a.eval x=xv at c1 c2 c3;have sv:∀ad:Addr,Instr.storeAt t (.pointer (some ad)) xv=storeVar t ad xv:=λad=>rfl
 have run:∀{mk:Prop}(b off:Nat)(cur:Array Value),mf mk w b cur->off+xs.length<=cur.size->∃w' gK,(storeVar t ⟨b,off,none⟩ xv).run P w= .ok () w'/\mf mk w' b gK/\eM w w' b/\gK.size=cur.size/\
   ∀k,gK[k]? =if off<=k/\k<off+xs.length then xv.cells[k-off]? else cur[k]? :=by
  intro mk b off cur hc hle;obtain⟨w',gK,h1,h2,h3,h4,h5⟩:=nB (P:=P) b off xv.cells.toList 0 cur w hc (by simp[c1];omega) c3
  refine⟨w',gK,?_,h2,h3,h4,λk=>?_⟩
  .unfold storeVar;rw[Sem.run_bind,ff hs];simp only[Result.andThen_ok];rw[if_neg (by rw[c1,hn];simp)]
   simpa using h1
  .rw[h5 k];simp[c1]
 split at h
 .rename_i id j;obtain⟨aD,rfl⟩:=Yj;obtain⟨bk,hb,h⟩:=aV.1 h;rw[aT]at hb;cases bk<;>simp only at h
  rename_i cs;obtain⟨e7,hw,hK⟩:=aV.1 h;obtain⟨w1,w2,w3⟩:=jJ hw;obtain⟨cur,bW,cg⟩:=hM.bk id _ hb;rw[aY]at hK;have kD:(ρ.aH (.aj id)).ar+j+xs.length<=cur.size:=by obtain⟨u,hu,_⟩:=cg (j+xs.length-1) _ (vl om);have:=(aaw.1 hu).1;omega
  obtain⟨w',gK,hr,rA,ht,dj,hk⟩:=run (ρ.aH (.aj id)).b ((ρ.aH (.aj id)).ar+j) cur bW kD;obtain⟨i4,hX⟩:=hM.KT (yS:= .var e7) hb ⟨_,hb,aC,by rintro⟨_,_,e⟩;cases e⟩ ht (λg=>⟨gK,rA,λk c Pw=>by
   rw[w3 k]at Pw;rw[hk];by_cases iY:j<=k/\k<j+xs.length
   .rw[if_pos iY]at Pw;rw[if_pos om];obtain⟨u,hu,cu⟩:=c2 _ c Pw;exact⟨u,by rw[<-hu];congr 1;omega,cu.ce g aC⟩
   .rw[if_neg iY]at Pw;rw[if_neg om];obtain⟨u,hu,cu⟩:=cg k c Pw;exact⟨u,hu,cu.ce g aC⟩⟩) (by
   rintro i' j' esz e ⟨b2,fx,gQ⟩;rw[SC (by rw[<-hM.n];exact aD)]at fx
   cases fx;cases gQ)
  refine⟨.skip,Go.undef,w',.undef,_,ρ,?_,.inr ⟨rfl,rfl⟩,hK,i4,rfl,hX⟩;rw[sv,Sem.run_bind,hr];rfl
 .rename_i id esz i j;obtain⟨aD,rfl⟩:=Yj;obtain⟨bk,hb,h⟩:=aV.1 h;rw[aT]at hb;cases bk<;>simp only at h
  rename_i oy elems;rcases cf.1 h with⟨he,h⟩|⟨_,h⟩
  case inr=>exact h.elim
  have he:esz=oy:=aam he;obtain⟨cells,dG,h⟩:=aV.1 h;rw[aT]at dG;rcases cf.1 h with⟨jX,h⟩|⟨_,h⟩
  case inr=>exact h.elim
  obtain⟨fm,hw,hK⟩:=aV.1 h;obtain⟨w1,w2,w3⟩:=jJ hw;obtain⟨h2,h3,h4,h5,BV⟩:=hM.bk id _ hb;have vy:=(JJ.1 dG).1;have cH:0<(ρ.aH (.aj id)).cap:=om;obtain⟨cur,bW,h1,cg⟩:=BV cH;rw[aY,aY]at hK;subst he;have im:cells.length=esz:=h5 _ (Sj dG);have hi:i<elems.length:=(JJ.1 dG).1;have hmul:i*esz+esz<=(ρ.aH (.aj id)).cap*esz:=by have:(i+1)*esz<=(ρ.aH (.aj id)).cap*esz:=aaQ _ om;rwa [aaZ,ace]at this
  obtain⟨w',gK,hr,rA,ht,dj,hk⟩:=run (ρ.aH (.aj id)).b ((ρ.aH (.aj id)).ar+i*esz+j) cur bW om;obtain⟨i4,hX⟩:=hM.KT (yS:= .row esz (elems.set i fm)) hb ⟨_,hb,aC,λ_=>cH⟩ ht (λg=>⟨by simpa using h2,h3,h4,λcs eC=>by
    rcases aaC eC with hm|rfl
    .exact h5 cs hm
    .rw[w1,im],λ_=>⟨gK,rA,by rw[dj];exact h1,λi' cs j' c eH og=>by
   rw[hk];by_cases O6:i=i'
   .subst O6;rw[SC hi]at eH;simp only[aat]at eH;subst eH;rw[w3 j']at og;by_cases iY:j<=j'/\j'<j+xs.length
    .rw[if_pos iY]at og;rw[if_pos om];obtain⟨u,hu,cu⟩:=c2 _ c og;exact⟨u,by rw[<-hu];congr 1;omega,(cu.ce g aC).wa _⟩
    .rw[if_neg iY]at og;rw[if_neg om];obtain⟨u,hu,cu⟩:=cg i cells j' c dG og;exact⟨u,hu,cu.ce g (by rintro _ _ _ e;cases e;exact aD)⟩
   .rw[Xg O6]at eH;obtain⟨u,hu,cu⟩:=cg i' cs j' c eH og;have adf:j'<esz:=by rw[<-h5 _ (Sj eH)];exact(JJ.1 og).1
    have du:¬((ρ.aH (.aj id)).ar+i*esz+j<=(ρ.aH (.aj id)).ar+i'*esz+j'/\(ρ.aH (.aj id)).ar+i'*esz+j'<(ρ.aH (.aj id)).ar+i*esz+j+xs.length):=by
     rcases Nat.lt_or_gt_of_ne O6 with oD|oD
     .have:(i+1)*esz<=i'*esz:=aaQ _ oD;rw[aaZ,ace]at this;omega
     .have:(i'+1)*esz<=i*esz:=aaQ _ oD;rw[aaZ,ace]at this;omega
    rw[if_neg du];exact⟨u,hu,cu.ce g (by rintro _ _ _ e;cases e;exact aD)⟩⟩⟩) (by
   rintro i' j' rx e ⟨b2,fx,gQ⟩;rw[SC (by rw[<-hM.n];exact aD)]at fx
   cases fx;obtain⟨Yk,eY,lG⟩:=gQ.yi;by_cases O6:i=i'
   .subst O6;rw[SC hi]at eY;cases eY;rw[w3 j']at lG;by_cases iY:j<=j'/\j'<j+xs.length
    .rw[if_pos iY]at lG;obtain⟨u,hu,cu⟩:=c2 _ _ lG;exact absurd rfl (cu.Ao _ _)
    .rw[if_neg iY]at lG;exact⟨_,hb,.row dG lG⟩
   .rw[Xg O6]at eY;exact⟨_,hb,.row eY lG⟩)
  refine⟨.skip,Go.undef,w',.undef,_,ρ,?_,.inr ⟨rfl,rfl⟩,hK,i4,rfl,hX⟩;rw[sv,Sem.run_bind,hr];rfl
 .exact h.elim
end
section
variable {P:Program} {ρ:bG} {m:Mem} {w:World} {aX:List CV} {a:Act} {K:CV->Mem->Prop}
theorem EB(hM:ax ρ m w)(hE:bj ρ w aX a.tmps){t:TypeId}{fs:Array Field}{f:Field}{k n:Nat}{x:Operand}{x':X}(hu:P.underlying t=some (.struct fs))(hf:fs[k]? =some f)(hs:eE P f.type=some n)(hn:n≠0)(hx:bn x=some x')(h:step P (.bU f.offset x') aX m K):db P (do pure (Next.value (<-Instr.fieldAt t (a.eval x) k))) ρ m w K:=by
 have hd:=aQ hE hx;simp only[step]at h;have run:∀b off:Nat,(Instr.fieldAt t (.pointer (some ⟨b,off,none⟩)) k).run P w= .ok (.pointer (some ⟨b,off+f.offset,none⟩)) w:=λb off=>by simp[Instr.fieldAt,run_underlying hu,hf,Instr.sureAddr,fieldPlace,ff hs,hn,mg]
 generalize a.eval x=v at hd|-;generalize x'.ev aX=c at hd h;split at h
 .obtain⟨aD,rfl⟩:=hd;exact db.pure hM (by rw[Sem.run_bind,run];rfl) h ⟨aD,by simp[aaW]⟩
 .obtain⟨aD,rfl⟩:=hd;exact db.pure hM (by rw[Sem.run_bind,run];rfl) h ⟨aD,by simp[aaW]⟩
 .obtain⟨b,off,rfl,hS,cg⟩:=hd;refine db.pure hM (by rw[Sem.run_bind,run];rfl) h ⟨b,off+f.offset,rfl,hS,λj d hj=>?_⟩
  rw[aaX]at hj;rw[aaW];exact cg _ d hj
 .exact h.elim
theorem Ck{t:TypeId}{agg:Bool}{off n:Nat}{cs l:List CC}{cells:Array Value}{cv:CV}(ha:dW P t=some agg)(hs:eE P t=some n)(hc:Cells ρ w cs cells)(hr:ja cs off n=some l)(hm:Ln agg l=some cv):∃u,(part t cells off).run P w= .ok u w/\bZ ρ w cv u:=by
 obtain⟨hl,lJ⟩:=kW hr;unfold part;rw[Sem.run_bind,pw ha];simp only[Result.andThen_ok];cases agg with
 |true=>
  simp[Ln]at hm;subst hm;refine⟨.agg (cells.extract off (off+n)),by simp[ff hs],?_⟩
  refine G8 ⟨?_,λi c hi=>?_⟩
  .simp only[Array.size_extract,hl];rcases abz n with h0|h0
   .omega
   .have:=lJ (n-1) om;have h1:off+(n-1)<cs.length:=by
     rcases aaf (off+(n-1)) cs.length with h|h
     .exact h
     .rw[aaz h,vl om]at this;cases this
    have:=hc.1;omega
  .have iY:i<n:=by rw[<-hl];exact(JJ.1 hi).1
   obtain⟨u,hu,cu⟩:=hc.2 (off+i) c ((lJ i iY).trans hi);have aD:=(aaw.1 hu).1;refine⟨u,?_,cu⟩;rw[Array.getElem?_extract];rw[if_pos om];exact hu
 |false=>
  match l,hm with
  | [c],hm=>
   simp[Ln]at hm;subst hm;obtain⟨u,hu,cu⟩:=hc.2 off c (by have:=lJ 0 (by simp at hl;omega);simpa using this)
   exact⟨u,by simp[hu],cu⟩
theorem IG(hM:ax ρ m w)(hE:bj ρ w aX a.tmps){t:TypeId}{fs:Array Field}{f:Field}{k n:Nat}{agg:Bool}{x:Operand}{x':X}(hu:P.underlying t=some (.struct fs))(hf:fs[k]? =some f)(ha:dW P f.type=some agg)(hs:eE P f.type=some n)(hx:bn x=some x')(h:step P (.Vh agg f.offset n x') aX m K):db P (do pure (Next.value (<-Instr.field t (a.eval x) k))) ρ m w K:=by
 have hd:=aQ hE hx;simp only[step]at h;generalize a.eval x=v at hd|-;generalize x'.ev aX=c at hd h;split at h
 .rename_i cs;obtain⟨vs,rfl,hl,hc⟩:=hd;obtain⟨l,hr,h⟩:=aV.1 h;obtain⟨cv,hm,hK⟩:=aV.1 h;obtain⟨u,cN,cu⟩:=Ck (w:=w) ha hs (cells:=vs.toArray) ⟨by simpa using hl,λi c hi=>by simpa using hc i c hi⟩ hr hm
  refine db.pure hM (v:=u) ?_ hK cu;simp[Instr.field,run_underlying hu,hf,asAgg,cN]
 .exact h.elim
theorem yT{α:Type}{l:List α}{n:Int}{x:α}(h:dC l n=some x):∃k:Nat,n=k/\l[k]? =some x:=by
 cases n with
 |ofNat k=>exact⟨k,rfl,by simpa[dC,aT]using h⟩
 |negSucc k=>simp[dC]at h
theorem mJ{n:Int}{len k:Nat}(h:dQ n len=some k):n=k/\k<len:=by
 cases n with
 |ofNat j=>
  simp only[dQ]at h;split at h
  .rename_i hb;simp at h;subst h;exact⟨rfl,by simpa[abW]using hb⟩
  .cases h
 |negSucc j=>simp[dQ]at h
theorem lU(a b:Nat):iB a b=a+b:=by
 cases a<;>simp[iB]
theorem iI(n lo:Nat)(hi:Option Nat):lenOf n lo hi=hi.getD n-lo:=by
 cases lo<;>cases hi<;>simp[lenOf]
theorem px{k:IntKind}{n:Int}{v:Value}(h:bZ ρ w (.rv (.one (.ah (.val (.int k n))))) v):v= .int k n:=(bC h).1
theorem lV{t e:TypeId}{esz:Nat}(hu:P.underlying t=some (.slice e))(hs:eE P e=some esz)(b off len cap k:Nat)(kd:IntKind)(hk:k<len):
  (Instr.indexAt t (.slice (some ⟨b,off,none⟩) len cap) (.int kd (k:Int))).run P w= .ok (.pointer (some ⟨b,off+k*esz,none⟩)) w:=by
 have h1:(0:Int)<=(k:Int)/\(k:Int)<(len:Int):=⟨om,om⟩;simp[Instr.indexAt,asIntOf,run_underlying hu,ff hs,mg];omega
theorem IH(hM:ax ρ m w)(hE:bj ρ w aX a.tmps){t e:TypeId}{esz:Nat}{x i:Operand}{x' i':X}(hu:P.underlying t=some (.slice e))(hs:eE P e=some esz)(hx:bn x=some x')(hi:bn i=some i')(h:step P (.cr esz x' i') aX m K):db P (do pure (Next.value (<-Instr.indexAt t (a.eval x) (a.eval i)))) ρ m w K:=by
 have hd:=aQ hE hx;have Ec:=aQ hE hi;simp only[step]at h;generalize a.eval x=v at hd|-;generalize a.eval i=vi at Ec|-;generalize x'.ev aX=c at hd h;generalize i'.ev aX=ci at Ec h;split at h
 .rename_i kd n;obtain rfl:=px Ec;split at h
  .rename_i oy elems;rcases cf.1 h with⟨he,g1⟩|⟨_,g1⟩
   case inr=>exact g1.elim
   have he:esz=oy:=aam he;subst he;obtain⟨ds,hg,hK⟩:=aV.1 g1;obtain⟨k,rfl,hk⟩:=yT hg;have aD:=(JJ.1 hk).1;cases hd with
   |nil=>simp at aD
   |sl _ _ b off cap u hS hl bc dj hc cg=>
    refine db.pure hM (by rw[Sem.run_bind,lV hu hs b off _ cap k kd aD];rfl) hK ⟨b,off+k*esz,rfl,hS,λj d hj=>?_⟩
    exact⟨_,hc k ds j d hk hj,cg k ds j d hk hj⟩
  .rename_i id oy lo hi;obtain⟨bk,hb,h⟩:=aV.1 h;rw[aT]at hb;cases bk<;>simp only at h
   rename_i rx elems;rcases cf.1 h with⟨he,g1⟩|⟨_,g1⟩
   case inr=>exact g1.elim
   rcases cf.1 g1 with⟨ke,g2⟩|⟨_,g2⟩
   case inr=>exact g2.elim
   have he:esz=oy:=aam he;subst he;obtain⟨k,hg,hK⟩:=aV.1 g2;obtain⟨rfl,hk⟩:=mJ hg;obtain⟨h2,h3,h4,h5,BV⟩:=hM.bk id _ hb;obtain⟨aD,d1,d2,d3,d4,ad,rfl,u7⟩:=hd;rw[iI,h2]at hk;rw[u7 (by clear BV;omega)]
   refine db.pure hM (by rw[Sem.run_bind,lV hu hs _ _ _ _ k kd hk];rfl) hK ⟨aD,?_⟩
   rw[lU,aaZ];simp[aaW]
  .exact h.elim
 .exact h.elim
theorem iJ{t e:TypeId}{esz len:Nat}(hu:P.underlying t=some (.array len e))(hs:eE P e=some esz)(b off k:Nat)(kd:IntKind)(hk:k<len):
  (Instr.indexAt t (.pointer (some ⟨b,off,none⟩)) (.int kd (k:Int))).run P w= .ok (.pointer (some ⟨b,off+k*esz,none⟩)) w:=by
 have h1:(0:Int)<=(k:Int)/\(k:Int)<(len:Int):=⟨om,om⟩;simp[Instr.indexAt,asIntOf,run_underlying hu,ff hs,mg,Instr.sureAddr];omega
theorem EC(hM:ax ρ m w)(hE:bj ρ w aX a.tmps){t e:TypeId}{len esz:Nat}{x i:Operand}{x' i':X}(hu:P.underlying t=some (.array len e))(hs:eE P e=some esz)(hx:bn x=some x')(hi:bn i=some i')(h:step P (.B7 len esz x' i') aX m K):db P (do pure (Next.value (<-Instr.indexAt t (a.eval x) (a.eval i)))) ρ m w K:=by
 have hd:=aQ hE hx;have Ec:=aQ hE hi;simp only[step]at h;generalize a.eval x=v at hd|-;generalize a.eval i=vi at Ec|-;generalize x'.ev aX=c at hd h;generalize i'.ev aX=ci at Ec h;split at h
 .rename_i kd n;obtain rfl:=px Ec;split at h
  .obtain⟨k,hg,hK⟩:=aV.1 h;obtain⟨rfl,hk⟩:=mJ hg;obtain⟨aD,rfl⟩:=hd;exact db.pure hM (by rw[Sem.run_bind,iJ hu hs _ _ k kd hk];rfl) hK ⟨aD,by simp[aaW]⟩
  .obtain⟨k,hg,hK⟩:=aV.1 h;obtain⟨rfl,hk⟩:=mJ hg;obtain⟨aD,rfl⟩:=hd;exact db.pure hM (by rw[Sem.run_bind,iJ hu hs _ _ k kd hk];rfl) hK ⟨aD,by simp[aaW]⟩
  .obtain⟨k,hg,hK⟩:=aV.1 h;obtain⟨rfl,hk⟩:=mJ hg;obtain⟨b,off,rfl,hS,cg⟩:=hd;refine db.pure hM (by rw[Sem.run_bind,iJ hu hs _ _ k kd hk];rfl) hK ⟨b,off+k*esz,rfl,hS,λj d hj=>?_⟩
   rw[aaX]at hj;rw[aaW];exact cg _ d hj
  .exact h.elim
 .exact h.elim
theorem ED(hM:ax ρ m w)(hE:bj ρ w aX a.tmps){t:TypeId}{x i:Operand}{x' i':X}(hu:P.underlying t=some .string)(hx:bn x=some x')(hi:bn i=some i')(h:step P (.B8 x' i') aX m K):db P (do pure (Next.value (<-Instr.index t (a.eval x) (a.eval i)))) ρ m w K:=by
 have hd:=aQ hE hx;have Ec:=aQ hE hi;simp only[step]at h;generalize a.eval x=v at hd|-;generalize a.eval i=vi at Ec|-;generalize x'.ev aX=c at hd h;generalize i'.ev aX=ci at Ec h;split at h
 .rename_i kd n;obtain rfl:=px Ec;split at h
  .rename_i s;obtain⟨rfl,_⟩:=bC hd;obtain⟨b,hg,hK⟩:=aV.1 h;obtain⟨k,rfl,hk⟩:=yT hg;have aD:k<s.size:=by have:=(JJ.1 hk).1;simpa using this
   have hs:s[k]? =some b:=by
    rw[vl (by simpa using aD)]at hk
    simp at hk;rw[getElem?_pos s k aD];simp[<-hk];rfl
   refine db.pure hM (v:= .int .u8 b.toNat) ?_ hK (cz rfl);simp[Instr.index,asIntOf,run_underlying hu,hs]
  .exact h.elim
 .exact h.elim
theorem yU(hM:ax ρ m w)(hE:bj ρ w aX a.tmps){op:BinOp}{t:TypeId}{x y:Operand}{x' y':X}(hx:bn x=some x')(hy:bn y=some y')(h:step P (.aJ op x' y') aX m K):db P (do let v<-(do eqGuard op t x y (a.eval x) (a.eval y);binOp op t (a.eval x) (a.eval y));pure (Next.value v)) ρ m w K:=by
 have hd:=aQ hE hx;have pX:=aQ hE hy;simp only[step]at h;generalize a.eval x=v at hd|-;generalize a.eval y=u at pX|-;generalize x'.ev aX=c at hd h;generalize y'.ev aX=d at pX h;split at h
 .split at h
  .obtain⟨r,hr,hK⟩:=aV.1 h;obtain⟨rfl,hp⟩:=bC hd (λe=>by subst e;simp[Iy]at hr)
   obtain⟨rfl,hq⟩:=bC pX (λe=>by subst e;cases v<;>simp[Iy]at hr)
   obtain⟨h1,h2⟩:=Ey (P:=P) (w:=w) hr (t:=t);refine db.pure hM (v:=r) ?_ hK (cz h2);have hg:(eqGuard op t x y v u).run P w= .ok () w:=uz hp (by rintro rfl;cases u<;>simp[Iy]at hr)
   simp only[Sem.run_bind,hg,Result.andThen_ok,h1,Sem.run_pure]
  .exact h.elim
 .exact h.elim
theorem yV(hM:ax ρ m w)(hE:bj ρ w aX a.tmps){neg:Bool}{t:TypeId}{x y:Operand}{x' y':X}(ht:P.underlying t=some .bool)(hx:bn x=some x')(hy:bn y=some y')(h:step P (.beq neg x' y') aX m K):db P (do let v<-(do eqGuard (if neg then .neq else .eql) t x y (a.eval x) (a.eval y);binOp (if neg then .neq else .eql) t (a.eval x) (a.eval y));pure (Next.value v)) ρ m w K:=by
 have hd:=aQ hE hx;have pX:=aQ hE hy;simp only[step]at h;generalize a.eval x=v at hd|-;generalize a.eval y=u at pX|-;generalize x'.ev aX=c at hd h;generalize y'.ev aX=d at pX h;split at h
 .split at h
  .obtain⟨rfl,hp⟩:=bC hd;obtain⟨rfl,hq⟩:=bC pX;refine db.pure hM (v:=_) ?_ h (cz rfl);rw[Sem.run_bind,Sem.run_bind,uz hp aC];simp only[Result.andThen_ok,Pv ht,Sem.run_pure]<;>rfl
  .exact h.elim
 .exact h.elim
theorem Ly(hM:ax ρ m w)(hE:bj ρ w aX a.tmps){op:UnOp}{x:Operand}{x':X}(hx:bn x=some x')(h:step P (.un op x') aX m K):db P (do pure (Next.value (<-Op.unary op (a.eval x)))) ρ m w K:=by
 have hd:=aQ hE hx;simp only[step]at h;generalize a.eval x=v at hd|-;generalize x'.ev aX=c at hd h;split at h
 .obtain⟨r,hr,hK⟩:=aV.1 h;obtain⟨rfl,hp⟩:=bC hd (λe=>by subst e;simp[Yg]at hr)
  obtain⟨h1,h2⟩:=ID (P:=P) (w:=w) hr;exact db.pure hM (v:=r) (by rw[Sem.run_bind,h1];rfl) hK (cz h2)
 .exact h.elim
theorem EE(hM:ax ρ m w)(hE:bj ρ w aX a.tmps){s d:TypeId}{k0 k:IntKind}{x:Operand}{x':X}(hs:P.underlying s=some (.int k0))(hk:P.underlying d=some (.int k))(hx:bn x=some x')(h:step P (.conv k x') aX m K):db P (do pure (Next.value (<-convert s d (a.eval x)))) ρ m w K:=by
 have hd:=aQ hE hx;simp only[step]at h;generalize a.eval x=v at hd|-;generalize x'.ev aX=c at hd h;split at h
 .obtain rfl:=px hd;refine db.pure hM (v:=_) ?_ h (cz rfl);simp[convert,run_underlying hs,run_underlying hk,Conv.intToInt]
 .exact h.elim
theorem II(hM:ax ρ m w)(hE:bj ρ w aX a.tmps){s d:TypeId}{x:Operand}{x':X}(hs:P.underlying s=some .string)(hk:P.underlying d=some .string)(hx:bn x=some x')(h:step P (.Vi x') aX m K):db P (do pure (Next.value (<-convert s d (a.eval x)))) ρ m w K:=by
 have hd:=aQ hE hx;simp only[step]at h;generalize a.eval x=v at hd|-;generalize x'.ev aX=c at hd h;split at h
 .obtain⟨rfl,hp⟩:=bC hd;refine db.pure hM (v:=_) ?_ h (cz rfl);simp[convert,run_underlying hs,run_underlying hk]
 .exact h.elim
theorem ti(hE:bj ρ w aX a.tmps):∀{xs:List Operand}{Hb:List X},uw xs=some Hb->(GY aX Hb).length=xs.length/\
  ∀(i:Nat)c,(GY aX Hb)[i]? =some c->∃v,(xs.map a.eval)[i]? =some v/\bZ ρ w c v
 | [],Hb,h=>by simp[uw]at h;subst h;simp[GY]
 |x::r,Hb,h=>by
  simp only[uw,T3,OJ]at h;obtain⟨x',hx,r',hr,h⟩:=h;simp at h;subst h;obtain⟨h1,h2⟩:=ti hE hr;refine⟨by simp[GY,h1],λi c hi=>?_⟩
  cases i with
  |zero=>simp[GY]at hi;subst hi;exact⟨_,aC,aQ hE hx⟩
  |succ i=>simpa using h2 i c (by simpa[GY]using hi)
theorem uD:∀{cs:List CV}{j8:List Nat},vL cs=some j8->cs=j8.map λid=>CV.rv (.one (.ptr id 0))
 | [],j8,h=>by simp[vL]at h;subst h;rfl
 |c::r,j8,h=>by
  unfold vL at h;split at h
  .rename_i h1;simp at h1
  .rename_i id r' h1;simp only[adA]at h1;obtain⟨rfl,rfl⟩:=h1;split at h
   .rename_i l hl;simp at h;subst h;rw[uD hl];rfl
   .cases h
  .cases h
theorem wb:∀j8:List Nat,vu j8=j8.map λid=>CV.rv (.one (.ptr id 0))
 | []=>rfl
 |id::r=>by simp[vu,wb r]
theorem Lz(hM:ax ρ m w)(hE:bj ρ w aX a.tmps){f:Nat}{xs:Array Operand}{Hb:List X}(hx:uw xs.toList=some Hb)(h:step P (.fn f Hb) aX m K):db P (do pure (Next.value (<-Instr.makeFunc (.func f) ((#[]:Array Operand).map a.eval) (xs.map a.eval)))) ρ m w K:=by
 simp only[step]at h;obtain⟨j8,hi,hK⟩:=aV.1 h;obtain⟨h1,h2⟩:=ti hE hx;rw[uD hi]at h1 h2;refine db.pure hM (v:= .func (.func f) #[] (xs.map a.eval)) (by simp[Instr.makeFunc]) hK ⟨λid hid=>?_,?_⟩
 .obtain⟨k,hk,rfl⟩:=acO hid;obtain⟨v,_,hd⟩:=h2 k _ (by rw[Sf,vl hk];rfl)
  exact hd.1
 .congr 1;apply ab9;rw[Array.toList_map];apply abN;intro k;simp only[Nr]at h1;rcases aaf k j8.length with hk|hk
  .obtain⟨v,hv,hd⟩:=h2 k _ (by rw[Sf,vl hk];rfl)
   rw[hv,hd.2];simp[vl hk]
  .rw[aaz (by simp;rw[<-Array.length_toList,<-h1];exact hk),aaz (by simpa using hk)]
theorem IJ(hM:ax ρ m w)(hE:bj ρ w aX a.tmps){i:Nat}{x:Operand}{x':X}(hx:bn x=some x')(h:step P (.ext x' i) aX m K):db P (do pure (Next.value (<-Instr.extract (a.eval x) i))) ρ m w K:=by
 have hd:=aQ hE hx;simp only[step]at h;generalize a.eval x=v at hd|-;generalize x'.ev aX=c at hd h;split at h
 .obtain⟨r,hr,hK⟩:=aV.1 h;rw[aT]at hr;obtain⟨vs,rfl,hl,hc⟩:=hd;obtain⟨u,hu,cu⟩:=hc i r hr;refine db.pure hM (v:=u) ?_ hK cu;simp[Instr.extract,hu]
 .exact h.elim
theorem tj(hM:ax ρ m w)(hE:bj ρ w aX a.tmps){t ty:TypeId}{x:Operand}{x':X}{k:Nat}(hu:(k=0/\P.underlying t=some .string)\/(k=1/\∃e,P.underlying t=some (.slice e))\/(k=2/\∃kt e,P.underlying t=some (.map kt e)))(hx:bn x=some x')(h:step P (.len k x') aX m K):db P (do pure (Next.value (<-Builtin.len_ #[t] ty #[a.eval x]))) ρ m w K:=by
 have hd:=aQ hE hx;generalize a.eval x=v at hd|-;rcases hu with⟨rfl,hu⟩|⟨rfl,e,hu⟩|⟨rfl,kt,e,hu⟩
 .simp only[step]at h;generalize x'.ev aX=c at hd h;split at h
  .obtain⟨rfl,hp⟩:=bC hd;refine db.pure hM (v:=_) ?_ h (cz rfl);simp[Builtin.len_,run_underlying hu,goInt]
  .exact h.elim
 .simp only[step]at h;generalize x'.ev aX=c at hd h;split at h
  .rename_i esz elems;refine db.pure hM (v:= .int .i64 (elems.length:Int)) ?_ h (cz rfl);cases hd<;>simp[Builtin.len_,run_underlying hu,goInt]
  .rename_i id esz lo hi;obtain⟨bk,hb,h⟩:=aV.1 h;rw[aT]at hb;cases bk<;>simp only at h
   rename_i oy elems;obtain⟨h2,h3,h4,h5,BV⟩:=hM.bk id _ hb;obtain⟨aD,d1,d2,d3,d4,ad,rfl,u7⟩:=hd;rw[iI,h2]at h;refine db.pure hM (v:=_) ?_ h (cz rfl);simp[Builtin.len_,run_underlying hu,goInt]
  .obtain⟨ad,rfl⟩:=hd;refine db.pure hM (v:=_) ?_ h (cz rfl);simp[Builtin.len_,run_underlying hu,goInt]
  .exact h.elim
 .simp only[step]at h;generalize x'.ev aX=c at hd h;split at h
  .rename_i id;obtain⟨bk,hb,h⟩:=aV.1 h;rw[aT]at hb;cases bk<;>simp only at h
   rename_i es;obtain⟨br,clock,ei,dj,u9⟩:=hM.bk id _ hb;obtain⟨aD,rfl⟩:=hd;refine db.pure hM (v:= .int .i64 (es.length:Int)) ?_ h (cz rfl);simp[Builtin.len_,run_underlying hu,goInt,getObj,Sem.run,ei,dj]
  .exact h.elim
theorem EF(hM:ax ρ m w)(hE:bj ρ w aX a.tmps){x:Operand}{x':X}{o:Oper}(ho:o.op= .nilCheck x)(hx:bn x=some x')(h:step P (.aO x') aX m K):db P (execOp a.eval o) ρ m w K:=by
 have hd:=aQ hE hx;simp only[step]at h;unfold execOp;rw[ho];simp only;generalize a.eval x=v at hd|-;generalize x'.ev aX=c at hd h;split at h
 .have SP:=hd;obtain⟨aD,rfl⟩:=hd;exact db.pure hM rfl h SP
 .have SP:=hd;obtain⟨aD,rfl⟩:=hd;exact db.pure hM rfl h SP
 .have SP:=hd;obtain⟨b,off,rfl,_⟩:=hd;exact db.pure hM rfl h SP
 .exact h.elim
theorem EG(hM:ax ρ m w)(hE:bj ρ w aX a.tmps){c x y:Operand}{c' x' y':X}(hc:bn c=some c')(hx:bn x=some x')(hy:bn y=some y')(h:step P (.pick c' x' y') aX m K):db P (do pure (Next.value (if<-asBool (a.eval c)then a.eval x else a.eval y))) ρ m w K:=by
 have hd:=aQ hE hc;simp only[step]at h;generalize a.eval c=v at hd|-;generalize c'.ev aX=cc at hd h;split at h
 .obtain⟨rfl,hp⟩:=bC hd;rcases cf.1 h with⟨rfl,h⟩|⟨rfl,h⟩
  .exact db.pure hM (v:=a.eval x) (by simp[asBool]) h (aQ hE hx)
  .exact db.pure hM (v:=a.eval y) (by simp[asBool]) h (aQ hE hy)
 .exact h.elim
theorem LA{α:Type}{n i:Nat}{x y:α}(h:(gm n x)[i]? =some y):y=x/\i<n:=by
 rw[fM,acV]at h;split at h
 .exact⟨by simpa using h.symm,by assumption⟩
 .cases h
def Ar(ρ:bG)(w:World)(esz:Nat)(rows:List (List CC))(cells:Array Value):Prop:=
 cells.size=rows.length*esz/\(∀cs,cs∈rows->cs.length=esz)/\
  ∀(i:Nat)cs(j:Nat)c,rows[i]? =some cs->cs[j]? =some c->∃u,cells[i*esz+j]? =some u/\bi ρ w .none c u
theorem uE(hE:bj ρ w aX a.tmps){esz:Nat}:
  ∀{ps:List (Nat×Operand)}{ot:List (Nat×X)}{rows mK:List (List CC)}{cells:Array Value},kO ps=some ot->uu aX esz rows ot=some mK->Ar ρ w esz rows cells->
   ∃fm,Instr.fill (λi=>some (i*esz,esz)) cells (ps.map λp=>(p.1,a.eval p.2))=some fm/\Ar ρ w esz mK fm/\mK.length=rows.length
 | [],ot,z,z',cells,hp,hf,hz=>by simp[kO]at hp;subst hp;simp[uu]at hf;subst hf;exact⟨cells,rfl,hz,rfl⟩
 |(i,x)::r,ot,z,z',cells,hp,hf,hz=>by
  simp only[kO,T3,OJ]at hp;obtain⟨x',hx,r',hr,hp⟩:=hp;simp at hp;subst hp;simp only[uu]at hf;split at hf
  .rename_i cs eC;split at hf
   .rename_i hlen;simp only[aac,abW]at hlen;have hl:cs.length=esz:=aam hlen.1;obtain⟨h1,h2,_⟩:=jK eC (aQ hE hx);have dj:i*esz+esz<=cells.size:=by rw[hz.1];have:(i+1)*esz<=z.length*esz:=aaQ _ hlen.2;rwa [aaZ,ace]at this
    have Y6:=th (i*esz) (a.eval x).cells.toList 0 cells;simp only[acB]at Y6;have he:(a.eval x).cells.zipIdx.foldl (λcs(p:Value×Nat)=>cs.setIfInBounds (i*esz+p.2) p.1) cells=((a.eval x).cells.toList.zipIdx 0).foldl (λ(cs:Array Value)(p:Value×Nat)=>cs.setIfInBounds (i*esz+p.2) p.1) cells:=by rw[<-Array.foldl_toList];simp
    have Cm:Instr.fill (λi=>some (i*esz,esz)) cells ((i,a.eval x)::r.map λp=>(p.1,a.eval p.2))=
      Instr.fill (λi=>some (i*esz,esz)) ((a.eval x).cells.zipIdx.foldl (λcs(p:Value×Nat)=>cs.setIfInBounds (i*esz+p.2) p.1) cells) (r.map λp=>(p.1,a.eval p.2)):=by
     rw[Instr.fill];simp only;rw[if_neg (by rw[h1,hl];simp;omega)]
    have Vx:Ar ρ w esz (aW z i cs) ((a.eval x).cells.zipIdx.foldl (λcs(p:Value×Nat)=>cs.setIfInBounds (i*esz+p.2) p.1) cells):=by
     rw[he,aY];refine⟨by rw[Y6.1,hz.1];simp,λe7 LB=>?_,λi' e7 j c eH hj=>?_⟩
     .rcases aaC LB with hm|rfl
      .exact hz.2.1 e7 hm
      .exact hl
     .have uF:(a.eval x).cells.toList.length=esz:=by simp[h1,hl]
      rw[Y6.2 (by rw[uF];exact dj),uF]
      by_cases O6:i=i'
      .subst O6;rw[SC hlen.2]at eH;simp only[aat]at eH;subst eH;have lG:j<esz:=by rw[<-hl];exact(JJ.1 hj).1
       rw[if_pos om];obtain⟨u,hu,cu⟩:=h2 j c hj;exact⟨u,by rw[show i*esz+j-i*esz=j by omega];simpa using hu,cu⟩
      .rw[Xg O6]at eH;have lG:j<esz:=by rw[<-hz.2.1 _ (Sj eH)];exact(JJ.1 hj).1
       rw[if_neg]
       .exact hz.2.2 i' e7 j c eH hj
       .rcases Nat.lt_or_gt_of_ne O6 with oD|oD
        .have:(i+1)*esz<=i'*esz:=aaQ _ oD;rw[aaZ,ace]at this;omega
        .have:(i'+1)*esz<=i*esz:=aaQ _ oD;rw[aaZ,ace]at this;omega
    obtain⟨fm,h3,h4,h5⟩:=uE hE hr hf Vx;exact⟨fm,by rw[aaJ,Cm,h3],h4,by rw[h5,aY];simp⟩
   .cases hf
  .cases hf
theorem EH(zero:Array Value)(n:Nat)(k:Nat)(hk:k<n)(hz:0<zero.size):((Array.range n).map (zero[· %zero.size]!))[k]? =zero[k%zero.size]? :=by have:k%zero.size<zero.size:=Nat.mod_lt _ hz;simp[hk,this]
theorem IK(hM:ax ρ m w)(hE:bj ρ w aX a.tmps){t e:TypeId}{n:Nat}{ps:Array (Nat×Operand)}{z:List CC}{ot:List (Nat×X)}(hu:P.underlying t=some (.slice e))(hz:d6 P e=some z)(hs:eE P e=some z.length)(cH:0<z.length)(hn:n*z.length<=2^24)(hp:kO ps.toList=some ot)(h:step P (.nw z.length z n ot) aX m K):db P (do pure (Next.value (<-Instr.buildSlice t n (ps.map λ(i,x)=>(i,a.eval x))))) ρ m w K:=by
 simp only[step]at h;obtain⟨rows,hf,hK⟩:=aV.1 h;rw[fe,gC,b7]at hK;obtain⟨zv,KU,Px⟩:=Ez (ρ:=ρ) (w:=w) hz;have Y7:zv.cells.size=z.length:=Px.1;have h0:Ar ρ w z.length (gm n z) ((Array.range (n*z.length)).map (zv.cells[· %zv.cells.size]!)):=by
  refine⟨by simp[fM],λcs eC=>?_,λi cs j c hi hj=>?_⟩
  .rw[fM]at eC;rw[acp eC]
  .obtain⟨rfl,iY⟩:=LA hi;have lG:=(JJ.1 hj).1;have aD:i*cs.length+j<n*cs.length:=by have:(i+1)*cs.length<=n*cs.length:=aaQ _ iY;rw[aaZ,ace]at this;omega
   rw[EH _ _ _ aD om,Y7,acT i,adB,adu lG];exact Px.2 j c hj
 obtain⟨cells,h1,h2,h3⟩:=uE hE hp hf h0;have hlen:rows.length=n:=by rw[h3,fM];simp
 obtain⟨U',g1,g2,g3⟩:=Lx hM (ty:=e) (cap:=n) (cells:=cells) (elems:=rows) (w':=w.alloc (.cells cells e)) (.inl rfl) (by rw[h2.1,hlen];exact T5 _) om (by unfold maxLen;have:n*1<=n*z.length:=Nat.mul_le_mul_left _ cH;omega) h2.2.1 h2.2.2
 rw[hlen]at g3;refine⟨_,_,_,_,_,U',?_,.inl rfl,hK,g1,g3,g2⟩;have Cm:Instr.fill (λi=>some (i*z.length,z.length)) ((Array.range (n*z.length)).map (zv.cells[· %zv.cells.size]!)) (ps.map λ(i,x)=>(i,a.eval x)).toList=some cells:=by simpa using h1
 rcases abz n with Ha|Ha
 .subst Ha;have e0:∀zz:Array Value,((Array.range (0*z.length)).map (zz[· %zz.size]!))= #[]:=by intro zz;simp
  rw[e0]at Cm;simp only[Instr.buildSlice,Sem.run_bind,run_underlying hu,Result.andThen_ok,ff hs];rw[if_neg om,if_pos aC];simp only[Sem.run_pure,Result.andThen_ok,e0,Cm];simp[newRow]
 .have du:n*z.length≠0:=Nat.ne_of_gt (Nat.mul_pos Ha cH);simp only[Instr.buildSlice,Sem.run_bind,run_underlying hu,Result.andThen_ok,ff hs];rw[if_neg om,if_neg du];simp only[Sem.run_bind,KU,Result.andThen_ok,Sem.run_pure,Cm];simp[newRow]
end
end Go.AM
