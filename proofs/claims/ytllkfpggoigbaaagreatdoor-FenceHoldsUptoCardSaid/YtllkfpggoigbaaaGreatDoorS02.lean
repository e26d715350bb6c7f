/- Part 2 of 35. -/
import Derived.Test.YtllkfpggoigbaaaGreatDoorS01
import Derived.Laws.BytesArg
import Derived.RangeFuncLeaves
import Derived.RangeFuncRecord
set_option linter.unusedVariables false
set_option linter.unusedSimpArgs false
set_option linter.unnecessarySimpa false
set_option maxRecDepth 100000
set_option maxHeartbeats 0
namespace Go.AM
inductive X where
 |t (n:Nat)
 |c (v:CV)
inductive Kd where
 |b
 |i
 |s
inductive Ky where
 |i (k:IntKind)
 |s
 |b
inductive I where
 |Iv (x:X)
 |pick (c a b:X)
 |alloc (z:List CC)
 |box (x:X)
 |build (z:List CC) (parts:List (Nat×Nat×X))
 |XY (esz:Nat) (z:List CC) (len:Nat) (parts:List (Nat×X))
 |load (agg:Bool) (n:Nat) (a:X)
 |store (n:Nat) (a x:X)
 |kp (off:Nat) (a:X)
 |Yu (agg:Bool) (off n:Nat) (a:X)
 |Ru (esz:Nat) (a i:X)
 |Nc (len esz:Nat) (a i:X)
 |Ki (a i:X)
 |wd (op:BinOp) (x y:X)
 |Nd (neg:Bool) (ks:List Kd) (x y:X)
 |beq (neg:Bool) (x y:X)
 |un (op:UnOp) (x:X)
 |conv (k:IntKind) (x:X)
 |Yv (x:X)
 |s2b (x:X)
 |Ui (x:X)
 |Vu (esz:Nat) (x:X) (lo hi mx:Option X)
 |Kj (x:X) (lo hi:Option X)
 |fn (f:Nat) (eG:List X)
 |len (k:Nat) (x:X)
 |Vv (esz bytes:Nat) (dst src:X)
 |call (f:X) (args:List X)
 |ext (x:X) (i:Nat)
 |Nf (x:X)
 |Ng (neg:Bool) (x:X)
 |Db
 |wF (esz bytes:Nat) (z:List CC) (n c:X)
 |Rw (z:RV) (kk:Ky) (m k:X) (ok:Bool)
 |Rx (kk:Ky) (m k v:X)
 |rz (mx:Bool) (xs:List X)
 |acH (m k:X)
 |copy (esz:Nat) (dst src:X)
 |clr (esz:Nat) (z:List CC) (x:X)
 |Nh (agg:Bool) (n sz:Nat) (x i:X)
 |idb (x:X)
structure LO where
 dst:Option Nat
 Af:I
 guard:Option (Nat×Bool)
inductive mJ where
 |nil
 |cons (i:Nat) (Ni:Option (List Nat)) (r:mJ)
 |zB (a b:mJ)
inductive LC where
 |skip
 |qU (ops:List LO)
 |iK (cg:List LO) (rA:List mJ)
 |seq (a b:LC)
 |cond (x:X) (a b:LC)
 |block (id:Nat) (b:LC)
 |loop (b:LC)
 |exit (id:Nat)
 |ret
 |q9 (a:LC)
 |zC (x:X) (p:Nat) (a b:LC)
def LC.er:LC->LC
 | .seq a b=>.seq a.er b.er
 | .cond x a b=>.cond x a.er b.er
 | .block id b=>.block id b.er
 | .loop b=>.loop b.er
 | .q9 a=>a.er
 | .zC x p a b=>.zC x p a.er b.er
 | .skip=>.skip
 | .qU ops=>.qU ops
 | .iK a b=>.iK a b
 | .exit id=>.exit id
 | .ret=>.ret
def LC.sx:LC->Bool
 | .seq a b=>a.sx&&b.sx
 | .cond _ a b=>a.sx&&b.sx
 | .block _ b=>b.sx
 | .loop b=>b.sx
 | .q9 a=>a.sx
 | .zC _ _ _ _=>false
 |_=>true
inductive Rv where
 |tmp (t:Nat)
 |cell (agg:Bool) (n:Nat) (t:Nat)
structure LF where
 n:Nat
 lM:List Rv
 code:LC
def LF.er(f:LF):LF:=⟨f.n,f.lM,f.code.er⟩
def dh{α:Type}:List α->Nat->Option α
 | [],_=>none
 |x::_,0=>some x
 |_::r,k+1=>dh r k
def aX{α:Type}:List α->Nat->α->List α
 | [],_,_=>[]
 |_::r,0,y=>y::r
 |x::r,k+1,y=>x::aX r k y
def jH{α:Type}{β:Sort _}:List α->(List α->β)->β
 | [],k=>k []
 |x::r,k=>jH r λr'=>k (x::r')
def lm:List CV->Nat->CV
 | [],_=>.aH
 |x::_,0=>x
 |_::r,k+1=>lm r k
def X.ev(e:List CV):X->CV
 | .t n=>lm e n
 | .c v=>v
def ok{α:Type}(o:Option α)(K:α->Prop):Prop:= @Option.rec α (λ_=>Prop) False K o
def bB(t:Bool)(A B:Prop):Prop:= @Bool.rec (λ_=>Prop) B A t
def jI:List CC->Nat->Nat->Option (List CC)
 |_,0,0=>some []
 | [],_,_=>none
 |c::cs,0,n+1=>match jI cs 0 n with|some l=>some (c::l)|none=>none
 |_::cs,j+1,n=>jI cs j n
def io:List CC->Nat->List CC->Option (List CC)
 |cs,0,[]=>some cs
 | [],_,_=>none
 |_::cs,0,x::xs=>match io cs 0 xs with|some l=>some (x::l)|none=>none
 |c::cs,j+1,xs=>match io cs j xs with|some l=>some (c::l)|none=>none
def wX:List Dt->Nat->Option (List CC)
 |_,0=>some []
 | [],_+1=>none
 |d::ds,n+1=>match wX ds n with|some l=>some (.ai d::l)|none=>none
def cellsOf:CV->Option (List CC)
 | .rv (.one c)=>some [c]
 | .rv (.agg cs)=>some cs
 |_=>none
def FF:CV->Option RV
 | .rv r=>some r
 |_=>none
def Nj(agg:Bool)(l:List CC):Option CV:=
 match agg,l with
 |true,l=>some (.rv (.agg l))
 |false,[c]=>some (.rv (.one c))
 |false,_=>none
def jJ:List CC->Bool
 | []=>true
 | .iJ _ _::_=>false
 |_::r=>jJ r
def cm{α:Type}(l:List α):Int->Option α
 | .ofNat k=>dh l k
 | .negSucc _=>none
def dL(n:Int)(len:Nat):Option Nat:=
 match n with
 | .ofNat k=>match Nat.blt k len with|true=>some k|false=>none
 | .negSucc _=>none
def fL(a b:Nat):Nat:=match a with|0=>b|a=>a+b
def lenOf(elems:Nat)(lo:Nat)(hi:Option Nat):Nat:=
 match lo,hi with
 |0,none=>elems
 |0,some h=>h
 |lo,none=>elems-lo
 |lo,some h=>h-lo
def bA{α:Type}(l:List α)(lo:Nat)(hi:Option Nat):List α:=
 match lo,hi with
 |0,none=>l
 |0,some h=>l.take h
 |lo,none=>l.drop lo
 |lo,some h=>(l.take h).drop lo
def pu(e:List CV):List CC->List (Nat×Nat×X)->Option (List CC)
 |z,[]=>some z
 |z,(off,sz,x)::r=>match cellsOf (x.ev e)with
  |some cs=>match Nat.beq cs.length sz with
   |true=>match io z off cs with
    |some z'=>pu e z' r
    |none=>none
   |false=>none
  |none=>none
def vd(e:List CV)(esz:Nat):List (List CC)->List (Nat×X)->Option (List (List CC))
 |z,[]=>some z
 |z,(i,x)::r=>match cellsOf (x.ev e)with
  |some cs=>match Nat.beq cs.length esz&&Nat.blt i z.length with
   |true=>vd e esz (aX z i cs) r
   |false=>none
  |none=>none
def gP{α:Type}:Nat->α->List α
 |0,_=>[]
 |n+1,x=>x::gP n x
def Iw(e:List CV):List X->List CV
 | []=>[]
 |x::r=>x.ev e::Iw e r
def wY:List CV->Option (List Nat)
 | []=>some []
 | .rv (.one (.ptr id 0))::r=>match wY r with|some l=>some (id::l)|none=>none
 |_=>none
def wG:List Nat->List CV
 | []=>[]
 |id::r=>.rv (.one (.ptr id 0))::wG r
def fT{α:Type}:List α->List α->List α
 | [],l=>l
 |x::r,l=>x::fT r l
def wZ{β:Sort _}(m0:Mem):Mem->List Nat->(Nat->β)->β
 | [],n::_,k=>k n
 |_::r,_::ls,k=>wZ m0 r ls k
 |_,[],k=>k m0.length
def sy{β:Sort _}(m:Mem)(k:Nat->β):β:=
 wZ m m [0,1,2,3,4,5,6,7,8,9,10,11,12,13,14,15,16,17,18,19,20,21,22,23,24,25,26,27,28,29,30,31,32,33,34,35,36,37,38,39,40,41,42,43,44,45,46,47,48,49,50,51,52,53,54,55,56,57,58,59,60,61,62,63] k
def al(k:IntKind)(n:Int):CV:= .rv (.one (.ai (.val (.int k n))))
def aq(b:Bool):CV:= .rv (.one (.ai (.val (.bool b))))
def dM(s:ByteArray):CV:= .rv (.one (.ai (.val (.string s))))
def Dc(op:BinOp):Value->Value->Option Value
 | .int k a,.int k' b=>
  match op with
  | .shl=>match decide (b<0)with|false=>some (.int k (k.wrap (a*2^(min b.toNat k.bits))))|true=>none
  | .shr=>match decide (b<0)with|false=>some (.int k (a.fdiv (2^(min b.toNat k.bits))))|true=>none
  |op=>match decide (k=k')with
   |false=>none
   |true=>match op with
    | .add=>some (.int k (k.wrap (a+b)))
    | .sub=>some (.int k (k.wrap (a-b)))
    | .mul=>some (.int k (k.wrap (a*b)))
    | .quo=>match decide (b=0)with|false=>some (.int k (k.wrap (a.tdiv b)))|true=>none
    | .rem=>match decide (b=0)with|false=>some (.int k (a.tmod b))|true=>none
    | .and=>some (.int k (k.wrap (BitVec.ofInt k.bits a&&&BitVec.ofInt k.bits b).toNat))
    | .or=>some (.int k (k.wrap (BitVec.ofInt k.bits a|||BitVec.ofInt k.bits b).toNat))
    | .xor=>some (.int k (k.wrap (BitVec.ofInt k.bits a^^^BitVec.ofInt k.bits b).toNat))
    | .andNot=>some (.int k (k.wrap (BitVec.ofInt k.bits a&&& ~~~ BitVec.ofInt k.bits b).toNat))
    | .eql=>some (.bool (a==b))
    | .neq=>some (.bool (a !=b))
    | .lss=>some (.bool (decide (a<b)))
    | .leq=>some (.bool (decide (a<=b)))
    | .gtr=>some (.bool (decide (a>b)))
    | .geq=>some (.bool (decide (a>=b)))
    |_=>none
 | .string a,.string b=>
  match op with
  | .add=>match decide (((a.size+b.size:Nat):Int)>IntKind.i64.max)with|false=>some (.string (a++b))|true=>none
  | .eql=>some (.bool (a.toList==b.toList))
  | .neq=>some (.bool (!(a.toList==b.toList)))
  | .lss=>some (.bool (Op.bytesLess a.toList b.toList))
  | .leq=>some (.bool (Op.bytesLess a.toList b.toList||a.toList==b.toList))
  | .gtr=>some (.bool (!(Op.bytesLess a.toList b.toList||a.toList==b.toList)))
  | .geq=>some (.bool (!(Op.bytesLess a.toList b.toList)))
  |_=>none
 |_,_=>none
def unV(op:UnOp):Value->Option Value
 | .bool b=>match op with| .not=>some (.bool (!b))|_=>none
 | .int k n=>match op with| .neg=>some (.int k (k.wrap (0-n)))|_=>none
 |_=>none
def Ry:Kd->Value->Value->Option Bool
 | .i,.int k a,.int k' b=>match decide (k=k')with|true=>some (a==b)|false=>none
 | .s,.string a,.string b=>some (a.toList==b.toList)
 | .b,.bool a,.bool b=>some (a==b)
 |_,_,_=>none
def ln:List Kd->List CC->List CC->Option Bool
 | [],[],[]=>some true
 |k::ks,.ai (.val a)::r,.ai (.val b)::s=>match Ry k a b,ln ks r s with
  |some x,some y=>some (x&&y)
  |_,_=>none
 |_,_,_=>none
def ap(P:Program)(f:Nat)(args:List CV)(m:Mem)(K:CV->Mem->Prop):Prop:=
 (∃fn,P.funcs[f]? =some fn/\fn.body.isSome=true/\(fn.name== "runtime.NumGoroutine")=false)/\
 ∀(ρ:bX)(w:World)(vs:List Value),aK ρ m w->vs.length=args.length->(∀(i:Nat)c,args[i]? =some c->∃v,vs[i]? =some v/\cw ρ w c v)->
  Calls P f vs.toArray w λe w'=>∃v r m' U',e= .returned v/\K r m'/\aK U' m' w'/\cw U' w' r v/\Ext ρ m w U' m' w'
def fV{β:Sort _}(v:CV)(k:CV->β):β:=
 match v with
 | .aH=>k .aH
 | .undef=>k .undef
 | .rv r=>match r with
  | .one c=>k (.rv (.one c))
  | .agg cs=>jH cs λcs=>k (.rv (.agg cs))
 | .bG rs=>k (.bG rs)
def ra(a b:Value):Option Bool:=
 match a,b with
 | .int k x,.int k' y=>match decide (k=k')with|true=>some (x==y)|false=>none
 | .string x,.string y=>some (x==y)
 | .bool x,.bool y=>some (x==y)
 |_,_=>none
def sA(k:Value):List ME->Option (Option RV)
 | []=>some none
 |e::es=>match ra k e.key with
  |some true=>some (some e.val)
  |some false=>sA k es
  |none=>none
def By(k:Value)(v:RV):List ME->Option (List ME)
 | []=>some [⟨k,v⟩]
 |e::es=>match ra k e.key with
  |some true=>some (⟨k,v⟩::es)
  |some false=>match By k v es with|some l=>some (e::l)|none=>none
  |none=>none
def w8(e:List CV)(m:Mem)(agg:Bool)(n:Nat)(a:CV)(K:CV->Prop):Prop:=
 match a with
 | .rv (.one (.ptr id j))=>ok (dh m id) λbk=>match bk with
  | .var cs=>ok (jI cs j n) λl=>ok (Nj agg l) K
  |_=>False
 | .rv (.one (.oq id esz i j))=>ok (dh m id) λbk=>match bk with
  | .row pw elems=>bB (Nat.beq esz pw) (ok (dh elems i) λcells=>ok (jI cells j n) λl=>bB (jJ l) (ok (Nj agg l) K) False) False
  |_=>False
 | .rv (.one (.sr ds))=>ok (wX ds n) λl=>ok (Nj agg l) K
 |_=>False
def fJ(m:Mem)(esz:Nat)(v:CV):Option (List (List CC)):=
 match v with
 | .rv (.one (.ai (.sl e elems)))=>match Nat.beq e esz with
  |true=>some (elems.map λds=>ds.map .ai)
  |false=>none
 | .rv (.one (.row id e lo hi))=>match dh m id with
  |some (.row e2 rows)=>match Nat.beq e esz,Nat.beq e2 esz with
   |true,true=>some (bA rows lo hi)
   |_,_=>none
  |_=>none
 | .rv (.one .bt)=>some []
 |_=>none
def jD(m:Mem)(v:CV):Mem:=
 match v with
 | .rv (.one (.row id _ _ _))=>aX m id .aE
 |_=>m
def w9(v:CV):Bool:=
 match v with
 | .rv (.one (.row _ _ _ _))=>true
 | .rv (.one .bt)=>true
 |_=>false
def Ix(a b:CV):Bool:=
 match a,b with
 | .rv (.one (.row i _ _ _)),.rv (.one (.row j _ _ _))=>!(Nat.beq i j)
 |_,_=>true
def CC.jJ:CC->Bool
 | .iJ _ _=>false
 |_=>true
def rB:List CC->Bool
 | []=>true
 |c::r=>c.jJ&&rB r
def fM:List (List CC)->Bool
 | []=>true
 |c::r=>rB c&&fM r
def dd{α:Type}(l:List α)(h:Nat)(E:List α):List α:=l.take h++(E++l.drop (h+E.length))
def rC(hi:Option Nat)(n:Nat):Nat:=match hi with|some h=>h|none=>n
def px(v:CV):Option Nat:=
 match v with
 | .rv (.one (.ai (.val (.int _ (.ofNat k)))))=>some k
 |_=>none
def lN(e:List CV)(o:Option X)(d:Nat):Option Nat:=
 match o with
 |none=>some d
 |some x=>px (x.ev e)
def isZ(v:CV):Bool:=
 match v with
 | .rv (.one (.ai (.val (.int _ n))))=>decide (n=0)
 |_=>false
def FG(e:List CV)(o:Option X):Bool:=
 match o with
 |none=>false
 |some x=>isZ (x.ev e)
def Nk(v:CV):Bool:=
 match v with
 | .rv (.one (.ai (.sl _ _)))=>true
 | .rv (.one (.row _ _ _ _))=>true
 | .rv (.one .bt)=>true
 |_=>false
def xb:List (List CC)->Option (List Int)
 | []=>some []
 | [.ai (.val (.int .u8 n))]::r=>match xb r with|some l=>some (n::l)|none=>none
 |_=>none
def rD(s:ByteArray):List (List CC):=s.data.toList.map λb=>[.ai (.val (.int .u8 b.toNat))]
def Nl(m:Mem)(v:CV):Option (List ME):=
 match v with
 | .rv (.one (.map id))=>match dh m id with|some (.mp es)=>some es|_=>none
 | .rv (.one (.ai (.val (.map none))))=>some []
 |_=>none
def zD:Ky->Value->Bool
 | .i k,.int k' _=>decide (k'=k)
 | .s,.string _=>true
 | .b,.bool _=>true
 |_,_=>false
def Yw(okF:Bool)(z:RV)(o:Option RV):CV:=
 match okF,o with
 |false,none=>.rv z
 |false,some v=>.rv v
 |true,none=>.bG [z,.one (.ai (.val (.bool false)))]
 |true,some v=>.bG [v,.one (.ai (.val (.bool true)))]
def step(P:Program)(i:I)(e:List CV)(m:Mem)(K:CV->Mem->Prop):Prop:=
 match i with
 | .Iv x=>K (x.ev e) m
 | .pick c a b=>match c.ev e with
  | .rv (.one (.ai (.val (.bool t))))=>bB t (K (a.ev e) m) (K (b.ev e) m)
  |_=>False
 | .alloc z=>sy m λn=>K (.rv (.one (.ptr n 0))) (fT m [.var z])
 | .box x=>ok (cellsOf (x.ev e)) λcs=>sy m λn=>K (.rv (.one (.ptr n 0))) (fT m [.var cs])
 | .build z ps=>ok (pu e z ps) λcs=>K (.rv (.agg cs)) m
 | .XY esz z len ps=>ok (vd e esz (gP len z) ps) λrows=>jH rows λrows=>sy m λn=>K (.rv (.one (.row n esz 0 none))) (fT m [.row esz rows])
 | .load agg n a=>w8 e m agg n (a.ev e) λv=>K v m
 | .store n a x=>ok (cellsOf (x.ev e)) λxs=>bB (Nat.beq xs.length n) (match a.ev e with
  | .rv (.one (.ptr id j))=>ok (dh m id) λbk=>match bk with
   | .var cs=>ok (io cs j xs) λfg=>K .undef (aX m id (.var fg))
   |_=>False
  | .rv (.one (.oq id esz i j))=>ok (dh m id) λbk=>match bk with
   | .row pw elems=>bB (Nat.beq esz pw) (ok (dh elems i) λcells=>bB (jJ cells) (ok (io cells j xs) λfz=>K .undef (aX m id (.row pw (aX elems i fz)))) False) False
   |_=>False
  |_=>False) False
 | .kp off a=>match a.ev e with
  | .rv (.one (.ptr id j))=>K (.rv (.one (.ptr id (j+off)))) m
  | .rv (.one (.oq id esz i j))=>K (.rv (.one (.oq id esz i (j+off)))) m
  | .rv (.one (.sr ds))=>K (.rv (.one (.sr (ds.drop off)))) m
  |_=>False
 | .Yu agg off n a=>match a.ev e with
  | .rv (.agg cs)=>ok (jI cs off n) λl=>ok (Nj agg l) λv=>K v m
  |_=>False
 | .Ru esz a i=>match i.ev e with
  | .rv (.one (.ai (.val (.int _ n))))=>match a.ev e with
   | .rv (.one (.ai (.sl pw elems)))=>bB (Nat.beq esz pw) (ok (cm elems n) λds=>K (.rv (.one (.sr ds))) m) False
   | .rv (.one (.row id pw lo hi))=>ok (dh m id) λbk=>match bk with
    | .row zE elems=>bB (Nat.beq esz pw) (bB (Nat.beq esz zE) (ok (dL n (lenOf elems.length lo hi)) λk=>K (.rv (.one (.oq id esz (fL lo k) 0))) m) False) False
    |_=>False
   |_=>False
  |_=>False
 | .Nc len esz a i=>match i.ev e with
  | .rv (.one (.ai (.val (.int _ n))))=>match a.ev e with
   | .rv (.one (.ptr id j))=>ok (dL n len) λk=>K (.rv (.one (.ptr id (j+k*esz)))) m
   | .rv (.one (.oq id s i' j))=>ok (dL n len) λk=>K (.rv (.one (.oq id s i' (j+k*esz)))) m
   | .rv (.one (.sr ds))=>ok (dL n len) λk=>K (.rv (.one (.sr (ds.drop (k*esz))))) m
   |_=>False
  |_=>False
 | .Ki a i=>match i.ev e with
  | .rv (.one (.ai (.val (.int _ n))))=>match a.ev e with
   | .rv (.one (.ai (.val (.string s))))=>ok (cm s.data.toList n) λb=>K (al .u8 b.toNat) m
   |_=>False
  |_=>False
 | .wd op x y=>match x.ev e with
  | .rv (.one (.ai (.val a)))=>match y.ev e with
   | .rv (.one (.ai (.val b)))=>ok (Dc op a b) λv=>K (.rv (.one (.ai (.val v)))) m
   |_=>False
  |_=>False
 | .Nd neg n x y=>match x.ev e with
  | .rv (.agg cs)=>match y.ev e with
   | .rv (.agg ds)=>ok (ln n cs ds) λb=>K (aq (match neg with|true=>!b|false=>b)) m
   |_=>False
  |_=>False
 | .beq neg x y=>match x.ev e with
  | .rv (.one (.ai (.val (.bool a))))=>match y.ev e with
   | .rv (.one (.ai (.val (.bool b))))=>K (aq (match neg with|true=>!(a==b)|false=>a==b)) m
   |_=>False
  |_=>False
 | .un op x=>match x.ev e with
  | .rv (.one (.ai (.val a)))=>ok (unV op a) λv=>K (.rv (.one (.ai (.val v)))) m
  |_=>False
 | .conv k x=>match x.ev e with
  | .rv (.one (.ai (.val (.int _ n))))=>K (al k (k.wrap n)) m
  |_=>False
 | .Yv x=>match x.ev e with
  | .rv (.one (.ai (.val (.string s))))=>K (dM s) m
  |_=>False
 | .fn f eG=>ok (wY (Iw e eG)) λkY=>K (.rv (.one (.fn f kY))) m
 | .len 1 x=>match x.ev e with
  | .rv (.one (.ai (.sl _ elems)))=>K (al .i64 (elems.length:Int)) m
  | .rv (.one (.row id _ lo hi))=>ok (dh m id) λbk=>match bk with
   | .row _ elems=>K (al .i64 (lenOf elems.length lo hi:Int)) m
   |_=>False
  | .rv (.one .bt)=>K (al .i64 0) m
  |_=>False
 | .len 0 x=>match x.ev e with
  | .rv (.one (.ai (.val (.string s))))=>K (al .i64 (s.size:Int)) m
  |_=>False
 | .len 2 x=>match x.ev e with
  | .rv (.one (.map id))=>ok (dh m id) λbk=>match bk with
   | .mp es=>K (al .i64 (es.length:Int)) m
   |_=>False
  |_=>False
 | .call f args=>match f.ev e with
  | .rv (.one (.fn f eG))=>ap P f (fT (Iw e args) (wG eG)) m K
  |_=>False
 | .ext x i=>match x.ev e with
  | .bG rs=>ok (dh rs i) λr=>K (.rv r) m
  |_=>False
 | .Vv esz bytes dst src=>bB (w9 (dst.ev e)&&Ix (dst.ev e) (src.ev e)) (ok (fJ m esz (dst.ev e)) λE1=>ok (fJ m esz (src.ev e)) λE2=>
   (E1.length+E2.length)*bytes<=140737488355328/\sy m λn=>K (.rv (.one (.row n esz 0 none))) (fT (jD (jD m (dst.ev e)) (src.ev e)) [.row esz (E1++E2)]))
   (match dst.ev e with
   | .rv (.one (.row id e1 lo (some h)))=>ok (dh m id) λbk=>match bk with
    | .row e2 rows=>ok (fJ m esz (src.ev e)) λE2=>bB (Nat.beq lo 0&&(Nat.beq e1 esz&&(Nat.beq e2 esz&&(Nat.ble 1 rows.length&&(Nat.ble (h+E2.length) rows.length&&fM E2)))))
     (rows.length*bytes<=140737488355328/\K (.rv (.one (.row id esz 0 (some (h+E2.length))))) (aX m id (.row esz (dd rows h E2)))) False
    |_=>False
   |_=>False)
 | .Ng neg x=>match x.ev e with
  | .rv (.one (.ai (.sl _ elems)))=>bB (Nat.beq elems.length 0) (K (aq true) m/\K (aq false) m) (K (aq neg) m)
  | .rv (.one (.row id _ lo hi))=>ok (dh m id) λbk=>match bk with
   | .row _ elems=>bB (Nat.beq (lenOf elems.length lo hi) 0) (K (aq true) m/\K (aq false) m) (K (aq neg) m)
   |_=>False
  | .rv (.one .bt)=>K (aq true) m/\K (aq false) m
  |_=>False
 | .Vu esz x lo hi (some mx)=>bB (lo.isNone&&FG e hi&&isZ (mx.ev e)&&Nk (x.ev e)) (K (.rv (.one .bt)) m)
   (ok (lN e lo 0) λl=>ok (fJ m esz (x.ev e)) λE=>ok (lN e hi E.length) λh=>ok (px (mx.ev e)) λYx=>bB (lo.isSome&&(hi.isSome&&(Nat.ble l h&&(Nat.ble h Yx&&Nat.ble Yx E.length)))) (K .aH m) False)
 | .Vu esz x lo hi none=>ok (lN e lo 0) λl=>match x.ev e with
  | .rv (.one (.ai (.sl e2 elems)))=>bB (Nat.beq e2 esz) (ok (lN e hi elems.length) λh=>bB (Nat.ble l h&&Nat.ble h elems.length) (K (.rv (.one (.ai (.sl esz ((elems.take h).drop l))))) m) False) False
  | .rv (.one (.row id e2 FH sj))=>ok (dh m id) λbk=>match bk with
   | .row _ elems=>bB (Nat.beq e2 esz) (ok (lN e hi (lenOf elems.length FH sj)) λh=>bB (Nat.ble l h&&Nat.ble h (elems.length-FH)) (K (.rv (.one (.row id esz (fL FH l) (some (fL FH h))))) m) False) False
   |_=>False
  |_=>False
 | .Kj x lo hi=>match x.ev e with
  | .rv (.one (.ai (.val (.string s))))=>ok (lN e lo 0) λl=>ok (lN e hi s.size) λh=>bB (Nat.ble l h&&Nat.ble h s.size) (K (dM (s.extract l h)) m) False
  |_=>False
 | .Nf x=>match x.ev e with
  | .rv (.one (.ptr id j))=>K (.rv (.one (.ptr id j))) m
  | .rv (.one (.oq id s i j))=>K (.rv (.one (.oq id s i j))) m
  | .rv (.one (.sr ds))=>K (.rv (.one (.sr ds))) m
  |_=>False
 | .Ui x=>ok (fJ m 1 (x.ev e)) λE=>ok (xb E) λxs=>K (dM (strOfNums xs)) m
 | .s2b x=>match x.ev e with
  | .rv (.one (.ai (.val (.string s))))=>s.size<=140737488355328/\sy m λn=>K (.rv (.one (.row n 1 0 none))) (fT m [.row 1 (rD s)])
  |_=>False
 | .rz mx [x,y]=>match x.ev e with
  | .rv (.one (.ai (.val (.int k a))))=>match y.ev e with
   | .rv (.one (.ai (.val (.int _ b))))=>match mx with
    |true=>K (al k (if b>a then b else a)) m
    |false=>K (al k (if b<a then b else a)) m
   |_=>False
  |_=>False
 | .idb x=>match x.ev e with
  | .rv (.one (.row id e1 lo hi))=>ok (dh m id) λbk=>match bk with
   | .row esz rows=>bB (Nat.beq esz 1&&Nat.blt lo rows.length) (K (.rv (.one (.row id e1 lo hi))) m) False
   |_=>False
  |_=>False
 | .clr esz z x=>match x.ev e with
  | .rv (.one (.row id e1 lo hi))=>ok (dh m id) λbk=>match bk with
   | .row e2 rows=>bB (Nat.beq e1 esz&&(Nat.beq e2 esz&&Nat.ble (rC hi rows.length) rows.length))
     (bB (Nat.blt lo (rC hi rows.length)) (K (.bG []) (aX m id (.row esz (dd rows lo (gP (rC hi rows.length-lo) z))))) (K (.bG []) m)) False
   |_=>False
  | .rv (.one .bt)=>K (.bG []) m
  |_=>False
 | .copy esz d s=>ok (fJ m esz (s.ev e)) λE=>bB (Nat.beq E.length 0) (bB (Nk (d.ev e)) (K (al .i64 0) m) False)
   (match d.ev e with
   | .rv (.one (.row id e1 lo hi))=>ok (dh m id) λbk=>match bk with
    | .row e2 rows=>bB (Nat.beq e1 esz&&(Nat.beq e2 esz&&(Nat.ble (rC hi rows.length) rows.length&&(Nat.ble (lo+E.length) (rC hi rows.length)&&fM E)))) (K (al .i64 (E.length:Int)) (aX m id (.row esz (dd rows lo E)))) False
    |_=>False
   |_=>False)
 | .Nh agg n sz x i=>match i.ev e with
  | .rv (.one (.ai (.val (.int _ j))))=>match x.ev e with
   | .rv (.agg cs)=>ok (dL j n) λk=>ok (jI cs (k*sz) sz) λl=>ok (Nj agg l) λv=>K v m
   |_=>False
  |_=>False
 | .Db=>sy m λn=>K (.rv (.one (.map n))) (fT m [.mp []])
 | .wF esz bytes z nx cx=>ok (px (nx.ev e)) λl=>ok (px (cx.ev e)) λc=>bB (Nat.beq l c) (c*bytes<=140737488355328/\sy m λn=>K (.rv (.one (.row n esz 0 none))) (fT m [.row esz (gP l z)])) False
 | .Rw z kk mx kx okF=>match kx.ev e with
  | .rv (.one (.ai (.val kv)))=>bB (zD kk kv) (ok (Nl m (mx.ev e)) λes=>ok (sA kv es) λo=>K (Yw okF z o) m) False
  |_=>False
 | .Rx kk mx kx vx=>match mx.ev e with
  | .rv (.one (.map id))=>match kx.ev e with
   | .rv (.one (.ai (.val kv)))=>bB (zD kk kv) (ok (dh m id) λbk=>match bk with
    | .mp es=>ok (FF (vx.ev e)) λv=>ok (By kv v es) λfk=>K .undef (aX m id (.mp fk))
    |_=>False) False
   |_=>False
  |_=>False
 |_=>False
def xd:Value->Option CC
 | .slice none 0 0=>some .bt
 |v=>match dY v with|true=>some (.ai (.val v))|false=>none
def bD:Operand->Option X
 | .tmp t=>some (.t t)
 | .const v=>(xd v).map λc=>.c (.rv (.one c))
 | .func f=>some (.c (.rv (.one (.fn f []))))
 | .global _=>none
def ve:List Operand->Option (List X)
 | []=>some []
 |x::r=>do some ((<-bD x)::(<-ve r))
def iP:Option Operand->Option (Option X)
 |none=>some none
 |some x=>do some (some (<-bD x))
def fh(P:Program)(t:TypeId):Option Nat:=(P.info? t).map (·.size)
def eL(P:Program)(t:TypeId):Option Bool:=(P.underlying t).map λ| .struct _| .array _ _=>true|_=>false
def nq:List Value->Option (List CC)
 | []=>some []
 |v::r=>do some ((<-xd v)::(<-nq r))
def eu(P:Program)(t:TypeId):Option (List CC):=do nq (<-(<-P.info? t).zero).cells.toList
def nr(P:Program)(fs:Array Field):List (Nat×Operand)->Option (List (Nat×Nat×X))
 | []=>some []
 |(i,x)::r=>do
  let f<-fs[i]?
  some ((f.offset,<-fh P f.type,<-bD x)::(<-nr P fs r))
def lF(sz:Nat):List (Nat×Operand)->Option (List (Nat×Nat×X))
 | []=>some []
 |(i,x)::r=>do some ((i*sz,sz,<-bD x)::(<-lF sz r))
def lG:List (Nat×Operand)->Option (List (Nat×X))
 | []=>some []
 |(i,x)::r=>do some ((i,<-bD x)::(<-lG r))
def Dd(g:TypeId->Option (List Kd)):List Field->Nat->Option (List Kd)
 | [],_=>some []
 |f::r,off=>if f.name≠ "_" /\f.offset=off then
   match g f.type with
   |some ks=>match Dd g r (off+ks.length)with
    |some ls=>some (ks++ls)
    |none=>none
   |none=>none
  else none
def flatK(P:Program):Nat->TypeId->Option (List Kd)
 |0,_=>none
 |d+1,t=>match P.underlying t with
  |some .bool=>if fh P t=some 1 then some [.b]else none
  |some (.int _)=>if fh P t=some 1 then some [.i]else none
  |some .string=>if fh P t=some 1 then some [.s]else none
  |some (.struct fs)=>if P.stoodInHeld t=false then
    match Dd (flatK P d) fs.toList 0 with
    |some ks=>if fh P t=some ks.length then some ks else none
    |none=>none
   else none
  |_=>none
def Kk(P:Program)(t:TypeId):Option Ky:=
 match P.underlying t with
 |some (.int k)=>some (.i k)
 |some .string=>some .s
 |some .bool=>some .b
 |_=>none
def Iy(P:Program)(t:TypeId):Option RV:=do
 match (<-(<-P.info? t).zero)with
 | .agg cs=>do some (.agg (<-nq cs.toList))
 |v=>do some (.one (<-xd v))
def xe(P:Program)(o:Oper):Option I:=
 match o.op with
 | .move x| .assign x=>do some (.Iv (<-bD x))
 | .pick c a b=>do some (.pick (<-bD c) (<-bD a) (<-bD b))
 | .alloc t=>do some (.alloc (<-eu P t))
 | .box _ x=>do some (.box (<-bD x))
 | .build t ps=>do
  let z<-eu P t
  match P.underlying t with
  |some (.struct fs)=>if(fs.toList.mapM (λf=>(P.info? f.type).map λi=>(f.offset,i.size))).isSome then some (.build z (<-nr P fs ps.toList))else none
  |some (.array _ e)=>some (.build z (<-lF (<-fh P e) ps.toList))
  |_=>none
 | .buildSlice t n ps=>do
  match P.underlying t with
  |some (.slice e)=>
   let z<-eu P e
   if(<-fh P e)=z.length/\0<z.length/\n*z.length<=2^24 then some (.XY z.length z n (<-lG ps.toList))else none
  |_=>none
 | .load t a=>do some (.load (<-eL P t) (<-fh P t) (<-bD a))
 | .store t a x=>do
  let n<-fh P t
  if n=0 then none else some (.store n (<-bD a) (<-bD x))
 | .fieldAddr t a k=>do
  match P.underlying t with
  |some (.struct fs)=>
   let f<-fs[k]?
   if(<-fh P f.type)=0 then none else some (.kp f.offset (<-bD a))
  |_=>none
 | .field t a k=>do
  match P.underlying t with
  |some (.struct fs)=>
   let f<-fs[k]?
   some (.Yu (<-eL P f.type) f.offset (<-fh P f.type) (<-bD a))
  |_=>none
 | .indexAddr t a i=>do
  match P.underlying t with
  |some (.slice e)=>some (.Ru (<-fh P e) (<-bD a) (<-bD i))
  |some (.array n e)=>some (.Nc n (<-fh P e) (<-bD a) (<-bD i))
  |_=>none
 | .index t a i=>do
  match P.underlying t with
  |some .string=>some (.Ki (<-bD a) (<-bD i))
  |some (.array n e)=>some (.Nh (<-eL P e) n (<-fh P e) (<-bD a) (<-bD i))
  |_=>none
 | .binOp op t x y _=>do
  match P.underlying t with
  |some (.int _)|some .string=>some (.wd op (<-bD x) (<-bD y))
  |some (.slice _)=>match y,op with
   | .const (.slice none 0 0),.eql=>some (.Ng false (<-bD x))
   | .const (.slice none 0 0),.neq=>some (.Ng true (<-bD x))
   |_,_=>none
  |some .bool=>match op with
   | .eql=>some (.beq false (<-bD x) (<-bD y))
   | .neq=>some (.beq true (<-bD x) (<-bD y))
   |_=>none
  |some (.array n e)=>match P.eqGuardType P.depth t,P.underlying e,fh P e,op with
   |false,some (.int _),some 1,.eql=>some (.Nd false (gP n .i) (<-bD x) (<-bD y))
   |false,some (.int _),some 1,.neq=>some (.Nd true (gP n .i) (<-bD x) (<-bD y))
   |_,_,_,_=>none
  |some (.struct _)=>match P.eqGuardType P.depth t,flatK P 5 t,op with
   |false,some ks,.eql=>some (.Nd false ks (<-bD x) (<-bD y))
   |false,some ks,.neq=>some (.Nd true ks (<-bD x) (<-bD y))
   |_,_,_=>none
  |_=>none
 | .unOp op _ x=>do some (.un op (<-bD x))
 | .convert s d x=>do
  match P.underlying s,P.underlying d with
  |some (.int _),some (.int k)=>some (.conv k (<-bD x))
  |some .string,some .string=>some (.Yv (<-bD x))
  |some (.slice e),some .string=>match P.underlying e with
   |some (.int .u8)=>some (.Ui (<-bD x))
   |_=>none
  |some .string,some (.slice e)=>match P.underlying e with
   |some (.int .u8)=>some (.s2b (<-bD x))
   |_=>none
  |some (.slice _),some (.slice e)=>match s==d,P.underlying e with
   |true,some (.int .u8)=>some (.idb (<-bD x))
   |_,_=>none
  |_,_=>none
 | .makeMap t r=>match r,P.underlying t with
  |none,_=>some .Db
  |some (.const (.int _ _)),some (.map _ _)=>some .Db
  |_,_=>none
 | .makeSlice t l c=>do
  match P.underlying t with
  |some (.slice e)=>
   let i<-P.info? e;let z<-eu P e
   if i.size=z.length/\0<z.length/\0<i.bytes then some (.wF i.size i.bytes z (<-bD l) (<-bD c))else none
  |_=>none
 | .lookup t x k b=>do
  match P.underlying t with
  |some (.map kt vt)=>some (.Rw (<-Iy P vt) (<-Kk P kt) (<-bD x) (<-bD k) b)
  |_=>none
 | .mapUpdate t x k v| .insert t x k v=>do
  match P.underlying t with
  |some (.map kt _)=>some (.Rx (<-Kk P kt) (<-bD x) (<-bD k) (<-bD v))
  |_=>none
 | .makeFunc (.func f) fst eG=>if fst.size=0 then do some (.fn f (<-ve eG.toList))else none
 | .extract x i=>do some (.ext (<-bD x) i)
 | .nilCheck x=>do some (.Nf (<-bD x))
 | .slice t x lo hi mx=>do
  match P.underlying t with
  |some (.slice e)=>some (.Vu (<-fh P e) (<-bD x) (<-iP lo) (<-iP hi) (<-iP mx))
  |some .string=>match mx with
   |none=>some (.Kj (<-bD x) (<-iP lo) (<-iP hi))
   |some _=>none
  |_=>none
 | .call {callee:= .builtin .len,args,argTypes}=>do
  match args.toList,argTypes.toList with
  | [x],[t]=>match P.underlying t with
   |some .string=>some (.len 0 (<-bD x))
   |some (.slice _)=>some (.len 1 (<-bD x))
   |some (.map _ _)=>some (.len 2 (<-bD x))
   |_=>none
  |_,_=>none
 | .call {callee:= .builtin .append,args,argTypes}=>do
  match args.toList,argTypes.toList with
  | [x,y],[t,t2]=>match P.underlying t,P.underlying t2 with
   |some (.slice e),some (.slice e2)=>
    let i<-P.info? e;let z<-eu P e
    if i.size=z.length/\0<z.length/\0<i.bytes then some (.Vv i.size i.bytes (<-bD x) (<-bD y))else none
   |_,_=>none
  |_,_=>none
 | .call {callee:= .builtin .max,args,..}=>do
  match args.toList with
  | [x,y]=>some (.rz true [<-bD x,<-bD y])
  |_=>none
 | .call {callee:= .builtin .min,args,..}=>do
  match args.toList with
  | [x,y]=>some (.rz false [<-bD x,<-bD y])
  |_=>none
 | .call {callee:= .builtin .clear,args,argTypes}=>do
  match args.toList,argTypes.toList with
  | [x],[t]=>match P.underlying t with
   |some (.slice e)=>
    let i<-P.info? e;let z<-eu P e
    if i.size=z.length then some (.clr i.size z (<-bD x))else none
   |_=>none
  |_,_=>none
 | .call {callee:= .builtin .copy,args,argTypes}=>do
  match args.toList,argTypes.toList with
  | [x,y],[t,_]=>match P.underlying t with
   |some (.slice e)=>
    let i<-P.info? e;let z<-eu P e
    if i.size=z.length then some (.copy i.size (<-bD x) (<-bD y))else none
   |_=>none
  |_,_=>none
 | .call {callee:= .value f,args,..}=>do some (.call (<-bD f) (<-ve args.toList))
 |_=>none
def Nm:I:= .rz true []
def sB(P:Program)(o:Oper):Option I:=
 match xe P o with
 |some i=>some i
 |none=>match o.op with
  | .defer _=>none
  |_=>some Nm
theorem Rz(P:Program){e:List CV}{m:Mem}{K:CV->Mem->Prop}:step P Nm e m K=False:=rfl
theorem FJ{P:Program}{o:Oper}{i:I}(h:sB P o=some i):xe P o=some i\/i=Nm:=by
 unfold sB at h;split at h
 .rename_i j hj;exact .inl (by rw[hj];exact h)
 .split at h
  .cases h
  .cases h;exact .inr rfl
def Nn(ops:Array Oper):Option (Nat×Bool)->Option (Option (Nat×Bool))
 |none=>some none
 |some (j,b)=>do some (some (<-(<-ops[j]?).dst,b))
def xf(P:Program)(ops:Array Oper)(o:Oper):Option LO:=do some ⟨o.dst,<-sB P o,<-Nn ops o.guard⟩
def ns(P:Program)(ops:Array Oper):List Oper->Option (List LO)
 | []=>some []
 |o::r=>do some ((<-xf P ops o)::(<-ns P ops r))
def I.xs:I->List X
 | .Iv x=>[x]
 | .pick c a b=>[c,a,b]
 | .alloc _=>[]
 | .box x=>[x]
 | .build _ ps=>ps.map λp=>p.2.2
 | .XY _ _ _ ps=>ps.map λp=>p.2
 | .load _ _ a=>[a]
 | .store _ a x=>[a,x]
 | .kp _ a=>[a]
 | .Yu _ _ _ a=>[a]
 | .Ru _ a i=>[a,i]
 | .Nc _ _ a i=>[a,i]
 | .Ki a i=>[a,i]
 | .wd _ x y=>[x,y]
 | .Nd _ _ x y=>[x,y]
 | .beq _ x y=>[x,y]
 | .un _ x=>[x]
 | .conv _ x=>[x]
 | .Yv x=>[x]
 | .s2b x=>[x]
 | .Ui x=>[x]
 | .Vu _ x lo hi mx=>x::(lo.toList++hi.toList++mx.toList)
 | .Kj x lo hi=>x::(lo.toList++hi.toList)
 | .fn _ eG=>eG
 | .len _ x=>[x]
 | .Vv _ _ d s=>[d,s]
 | .call f args=>f::args
 | .ext x _=>[x]
 | .Nf x=>[x]
 | .Ng _ x=>[x]
 | .Db=>[]
 | .wF _ _ _ n c=>[n,c]
 | .Rw _ _ m k _=>[m,k]
 | .Rx _ m k v=>[m,k,v]
 | .rz _ xs=>xs
 | .acH m k=>[m,k]
 | .copy _ d s=>[d,s]
 | .clr _ _ x=>[x]
 | .Nh _ _ _ x i=>[x,i]
 | .idb x=>[x]
def mK:List X->List Nat
 | []=>[]
 | .t n::r=>n::mK r
 | .c _::r=>mK r
def LO.looks(lo:LO):List Nat:=
 match lo.guard with
 |none=>mK lo.Af.xs
 |some (s,_)=>s::mK lo.Af.xs
def Ag:I->Bool
 | .Iv _| .pick .. | .build .. | .kp .. | .Yu .. | .Nh .. | .Nc .. | .Ki .. | .wd .. | .Nd .. | .beq .. | .un .. | .conv .. | .Yv .. | .fn .. | .ext .. | .Nf _| .Kj .. =>true
 |_=>false
def ub(i:I):Bool:=Ag i||match i with| .load .. | .Ru .. | .len .. | .Vu .. =>true|_=>false
def Bz(dz:List Nat)(l:List Nat):Nat:=l.foldr (λj m=>Nat.lor m (Nat.lor (Nat.shiftLeft 1 j) ((dh dz j).getD 0))) 0
def FK(iz:List (List Nat))(dz:List Nat):List Nat:=iz.map (Bz dz)
def BA(iz:List (List Nat)):Nat->List Nat->List Nat
 |0,dz=>dz
 |k+1,dz=>let a:=FK iz dz;match a==dz with|true=>dz|false=>BA iz k a
def bI(n:Nat)(iz:List (List Nat)):List Nat:=BA iz n []
def ot(ms:List Nat)(i j:Nat):Bool:=Nat.testBit ((dh ms i).getD 0) j
def du(cg:List LO)(t j:Nat):Bool:=match dh cg j with|some lo=>(match lo.dst with|some d=>Nat.beq d t|none=>false)|none=>false
def py(cg:List LO)(j:Nat):List Nat:=match dh cg j with|some lo=>lo.looks|none=>[]
def Kl(cg:List LO)(j:Nat):Option Nat:=match dh cg j with|some lo=>lo.dst|none=>none
def FL(cg:List LO)(j:Nat):Bool:=match dh cg j with|some lo=>Ag lo.Af|none=>false
def mL(cg:List LO)(j:Nat):Bool:=match dh cg j with|some lo=>ub lo.Af|none=>false
def mJ.hd:mJ->List Nat
 | .nil=>[]
 | .cons i _ _=>[i]
 | .zB a b=>a.hd++b.hd
def Iz(cg:List LO)(ms:List Nat)(n:Nat)(bf:List Nat)(i:Nat):Bool:=
 Nat.blt i n&& !(bf.contains i)&&
  ((py cg i).all λt=>bf.all λj=>!(du cg t j)||ot ms i j)&&
  (match Kl cg i with|none=>true|some t=>bf.all λj=>!(du cg t j)&&(!((py cg j).contains t)||ot ms i j))
def Vw(ms:List Nat)(n:Nat)(bf hd:List Nat):Bool:=(List.range n).all λi=>bf.contains i||(hd.contains i||hd.any λf=>ot ms i f)
def d8(cg:List LO)(ms:List Nat)(n:Nat):Bool->List Nat->mJ->Bool
 |c,bf,.nil=>c&&(List.range n).all λi=>bf.contains i
 |c,bf,.cons i none r=>c&&(Iz cg ms n bf i&&(mL cg i&&d8 cg ms n true (i::bf) r))
 |c,bf,.cons i (some l) r=>(!c||Vw ms n bf [i])&&(Iz cg ms n bf i&&((bf.all λj=>!(mL cg j)||(ot ms i j||(FL cg j||l.contains j)))&&d8 cg ms n true (i::bf) r))
 |c,bf,.zB x y=>(!c||Vw ms n bf (x.hd++y.hd))&&(d8 cg ms n false bf x&&d8 cg ms n false bf y)
def Ah(iz:List (List Nat))(n:Nat):List Nat->List Nat->Bool
 |bf,[]=>(List.range n).all λi=>bf.contains i
 |bf,i::r=>Nat.blt i n&&((dh iz i).getD []).all (λj=>bf.contains j)&&Ah iz n (i::bf) r
def Yy(iz:List (List Nat))(n:Nat):Nat->List Nat->List Nat
 |0,_=>[]
 |k+1,bf=>match (List.range n).find? λi=>!(bf.contains i)&&((dh iz i).getD []).all (λj=>bf.contains j)with
  |some i=>i::Yy iz n k (i::bf)
  |none=>[]
def sC(cg:List LO)(iz:List (List Nat))(sched:mJ):Bool:=
 Ah iz cg.length [] (Yy iz cg.length cg.length [])&&d8 cg (bI cg.length iz) cg.length true [] sched
def No(cg:List LO)(ms:List Nat)(De:List Nat)(done:List Nat)(i:Nat):Bool:=
 !(done.contains i)&&mL cg i&&De.all λf=>done.contains f|| !(ot ms i f)
def Uj:List Nat->mJ->mJ
 | [],r=>r
 |i::l,r=>.cons i none (Uj l r)
def Yz:List mJ->mJ
 | []=>.nil
 | [x]=>x
 |x::r=>.zB x (Yz r)
def IA(cg:List LO)(ms:List Nat)(all De:List Nat):Nat->List Nat->mJ
 |0,_=>.nil
 |k+1,done=>
  let now:=all.filter (No cg ms De done);let Uk:=now.reverse++done;let left:=De.filter λf=>!(done.contains f)
  Uj now (Yz ((left.filter λf=>left.all λg=>Nat.beq g f|| !(ot ms f g)).map λf=>
   .cons f (some (Uk.filter λj=>mL cg j&& !(ot ms f j||FL cg j))) (IA cg ms all De k (f::Uk))))
def IB(cg:List LO)(iz:List (List Nat)):mJ:=
 let ms:=bI cg.length iz;let all:=List.range cg.length;let De:=all.filter λi=>!(mL cg i)
 IA cg ms all De (De.length+1) []
def lO(md:Region.Mode)(ops:Array Oper):List (List Nat):=ops.toList.map λo=>(o.after.toList.filter (Region.binds md)).map (·.on)
def wH(P:Program)(ops:Array Oper):List Region.Mode:=if(P.follows .mixedOrders|| !(Region.departs ops))=true then [.any]else [.text,.gc]
def xg(P:Program)(cg:List LO)(ops:Array Oper):Option (List mJ):=
 let ms:=wH P ops;let s:=IB cg (lO .any ops)
 if(ms.all λmd=>sC cg (lO md ops) s)=true then some [s]
 else
  let ss:=ms.map λmd=>IB cg (lO md ops)
  if(ms.all λmd=>ss.any λs=>sC cg (lO md ops) s)=true then some ss else none
def d6(P:Program):Code->Option LC
 | .skip=>some .skip
 | .region _ ops true=>do
  let cg<-ns P ops ops.toList
  some (.iK cg (<-xg P cg ops))
 | .region _ ops false=>do some (.qU (<-ns P ops ops.toList))
 | .seq a b=>do some (.seq (<-d6 P a) (<-d6 P b))
 | .cond x a b=>do some (.cond (<-bD x) (<-d6 P a) (<-d6 P b))
 | .block id b=>do some (.block id (<-d6 P b))
 | .loop b=>do some (.loop (<-d6 P b))
 | .exit id=>some (.exit id)
 | .ret=>some .ret
 | .rangeFunc f ps a c=>do
  match ps.toList with
  | [p]=>
   let la<-d6 P a;let lc<-d6 P c
   if(la.sx&&lc.sx)=true then some (.zC (<-bD f) p la lc)else none
  |_=>none
 |_=>none
def ov(P:Program):List ResultVar->Option (List Rv)
 | []=>some []
 | .tmp t::r=>do some (.tmp t::(<-ov P r))
 | .cell a t::r=>do some (.cell (<-eL P t) (<-fh P t) a::(<-ov P r))
def bs(P:Program)(fn:Func):Option LF:=do
 some ⟨fn.ntmps,<-ov P fn.results.toList,<-d6 P (<-fn.body)⟩
inductive Ex where
 |normal
 |exit (id:Nat)
 |ret
def put(d:Option Nat)(v:CV)(e:List CV)(K:List CV->Prop):Prop:=
 match d with
 |none=>K e
 |some d=>fV v λv=>jH (aX e d v) K
def IC(P:Program)(o:LO)(ih:(List CV->Mem->Prop)->List CV->Mem->Prop)(K:List CV->Mem->Prop)(e:List CV)(m:Mem):Prop:=
  match o.guard with
  |none=>step P o.Af e m λv m'=>jH m' λm'=>put o.dst v e λe'=>ih K e' m'
  |some (s,kP)=>
   match lm e s with
   | .undef=>put o.dst .undef e λe'=>ih K e' m
   | .rv (.one (.ai (.val (.bool t))))=>bB t
    (jH (aX e s (aq true)) λe=>match kP with
     |true=>step P o.Af e m λv m'=>jH m' λm'=>put o.dst v e λe'=>ih K e' m'
     |false=>put o.dst .undef e λe'=>ih K e' m)
    (jH (aX e s (aq false)) λe=>match kP with
     |false=>step P o.Af e m λv m'=>jH m' λm'=>put o.dst v e λe'=>ih K e' m'
     |true=>put o.dst .undef e λe'=>ih K e' m)
   |_=>False
def Km(P:Program)(l:List LO):(List CV->Mem->Prop)->List CV->Mem->Prop:=
 @List.rec LO (λ_=>(List CV->Mem->Prop)->List CV->Mem->Prop) (λK e m=>K e m) (λo _ ih K e m=>IC P o ih K e m) l
theorem Ai{P:Program}{o:LO}{r:List LO}{K:List CV->Mem->Prop}{e:List CV}{m:Mem}:Km P (o::r) K e m=IC P o (Km P r) K e m:=rfl
def oY(P:Program)(lo:LO)(e:List CV)(m:Mem)(K:List CV->CV->Mem->Prop):Prop:=
 match lo.guard with
 |none=>step P lo.Af e m λv m'=>jH m' λm'=>K e v m'
 |some (s,kP)=>match lm e s with
  | .undef=>K e .undef m
  | .rv (.one (.ai (.val (.bool t))))=>bB t
   (jH (aX e s (aq true)) λe=>match kP with
    |true=>step P lo.Af e m λv m'=>jH m' λm'=>K e v m'
    |false=>K e .undef m)
   (jH (aX e s (aq false)) λe=>match kP with
    |false=>step P lo.Af e m λv m'=>jH m' λm'=>K e v m'
    |true=>K e .undef m)
  |_=>False
def xh(j:Nat):List (Nat×LO×List CV×CV)->Option (LO×List CV×CV)
 | []=>none
 |(i,x)::r=>match Nat.beq i j with|true=>some x|false=>xh j r
def YA(P:Program)(m:Mem)(ew:List (Nat×LO×List CV×CV))(l:List Nat):Prop:=
 @List.rec Nat (λ_=>Prop) True (λj _ ih=>(ok (xh j ew) λx=>oY P x.1 x.2.1 m λ_ v _=>v=x.2.2)/\ih) l
theorem Np{P:Program}{m:Mem}{ew:List (Nat×LO×List CV×CV)}{j:Nat}{r:List Nat}:YA P m ew (j::r)=((ok (xh j ew) λx=>oY P x.1 x.2.1 m λ_ v _=>v=x.2.2)/\YA P m ew r):=rfl
def ID(P:Program)(cg:List LO)(i:Nat)(Ni:Option (List Nat))(ih:List (Nat×LO×List CV×CV)->(List CV->Mem->Prop)->List CV->Mem->Prop)(ew:List (Nat×LO×List CV×CV))(K:List CV->Mem->Prop)(e:List CV)(m:Mem):Prop:=
 ok (dh cg i) λlo=>oY P lo e m λe1 v m'=>put lo.dst v e1 λe'=>
  match Ni with
  |none=>ih ((i,lo,e,v)::ew) K e' m'
  |some l=>YA P m' ew l/\ih ew K e' m'
def we(P:Program)(cg:List LO)(sch:mJ):List (Nat×LO×List CV×CV)->(List CV->Mem->Prop)->List CV->Mem->Prop:=
 @mJ.rec (λ_=>List (Nat×LO×List CV×CV)->(List CV->Mem->Prop)->List CV->Mem->Prop) (λ_ K e m=>K e m)
  (λi Ni _ ih ew K e m=>ID P cg i Ni ih ew K e m) (λ_ _ Vx Vy ew K e m=>Vx ew K e m/\Vy ew K e m) sch
theorem Aj{P:Program}{cg:List LO}{i:Nat}{Ni:Option (List Nat)}{r:mJ}{ew:List (Nat×LO×List CV×CV)}{K:List CV->Mem->Prop}{e:List CV}{m:Mem}:
  we P cg (.cons i Ni r) ew K e m=ID P cg i Ni (we P cg r) ew K e m:=rfl
theorem Nq{P:Program}{cg:List LO}{a b:mJ}{ew:List (Nat×LO×List CV×CV)}{K:List CV->Mem->Prop}{e:List CV}{m:Mem}:
  we P cg (.zB a b) ew K e m=(we P cg a ew K e m/\we P cg b ew K e m):=rfl
def Vz(x:X)(v:CV)(e:List CV):List CV:=
 match x with
 | .t n=>aX e n v
 | .c _=>e
def i5:Nat->List (Nat×CV)->List CV
 |n,as=>go n as (gP n .aH)
 where go:Nat->List (Nat×CV)->List CV->List CV
 |_,[],e=>e
 |n,(s,v)::r,e=>aX (go n r e) s v
inductive nt:Mem->Mem->Prop
 |nil (m:Mem):nt m []
 |cons {b b':Bk} {m m':Mem} (h:b'=b\/b'= .aE) (hm:nt m m'):nt (b::m) (b'::m')
def CC.dF(n:Nat):CC->Prop
 | .ptr id _=>id<n
 | .oq id _ _ _=>id<n
 | .row id _ _ _=>id<n
 | .map id=>id<n
 | .fn _ eG=>∀id,id∈eG->id<n
 |_=>True
def RV.dF(n:Nat):RV->Prop
 | .one c=>c.dF n
 | .agg cs=>∀c,c∈cs->c.dF n
def CV.dF(n:Nat):CV->Prop
 | .rv r=>r.dF n
 | .bG rs=>∀r,r∈rs->r.dF n
 |_=>True
def Bk.dF(n:Nat):Bk->Prop
 | .aE=>True
 | .var cs=>∀c,c∈cs->c.dF n
 | .row _ elems=>∀cs,cs∈elems->∀c,c∈cs->c.dF n
 | .mp es=>∀e,e∈es->e.val.dF n
structure Nr(n0:Nat)(s s':St):Prop where
 n0:n0<=s'.mem.length
 len:s'.aY.length=s.aY.length
 aY:∀(i:Nat)v,s'.aY[i]? =some v->v= .aH\/(s.aY[i]? =some v/\(s'.mem.length=s.mem.length\/v.dF s'.mem.length))
 mem:nt s.mem s'.mem
 kY:s'.mem.length=s.mem.length\/∀b,b∈s'.mem->b.dF s'.mem.length
structure VA(n0:Nat)(ρ:bX)(m:Mem)(U':bX)(m':Mem):Prop where
 aV:∀id,id<n0->U'.aV (.ay id)=ρ.aV (.ay id)
 S:∀b,ρ.S b->U'.S b
 S':∀b,U'.S b->ρ.S b\/∃k,Live ρ m k/\(ρ.aV k).b=b
 aF:∀k,Live U' m' k->∃k0,Live ρ m k0/\(ρ.aV k0).b=(U'.aV k).b
structure View(n0:Nat)(s s':St):Prop where
 hn:n0<=s'.mem.length
 len:s'.aY.length=s.aY.length
 go:∀(ρ:bX)(w:World),aK ρ s.mem w->∃U',aK U' s'.mem w/\VA n0 ρ s.mem U' s'.mem/\∀(i:Nat)c',s'.aY[i]? =some c'->∃c,s.aY[i]? =some c/\∀v,cw ρ w c v->cw U' w c' v
def ow(f:(Ex->St->Prop)->St->Prop)(K:Ex->St->Prop)(ex:Ex)(s:St):Prop:=
 match ex with
 | .normal=>f K s
 | .exit id=>K (.exit id) s
 | .ret=>K .ret s
def FM(id:Nat)(K:Ex->St->Prop)(ex:Ex)(s:St):Prop:=
 match ex with
 | .normal=>K .normal s
 | .exit kZ=>bB (Nat.beq kZ id) (K .normal s) (K (.exit kZ) s)
 | .ret=>K .ret s
def IE(n0:Nat){α:Type}(J:α->Prop)(S:α->St)(μ:α->Nat)(n:Nat)(K:Ex->St->Prop)(ex:Ex)(s:St):Prop:=
 match ex with
 | .normal=>∃a,J a/\μ a<n/\View n0 s (S a)
 | .exit id=>K (.exit id) s
 | .ret=>K .ret s
def Ko(K:Ex->St->Prop)(e:List CV)(m:Mem):Prop:=K .normal ⟨e,m⟩
def rb:Mem->List Nat->Mem
 |m,[]=>m
 |m,id::r=>rb (aX m id .aE) r
def BB(m:Mem):List Nat->List Value->Prop
 | [],[]=>True
 |id::r,v::vs=>(dh m id=some (.var [.ai (.val v)])/\dY v=true)/\BB m r vs
 |_,_=>False
def sD(as:List (Nat×Nat)):List Value:=as.map λa=>Value.pointer (some ⟨a.1,a.2,none⟩)
def Ul(P:Program)(l:Nat)(args:Array Value)(W:World)(R:Ending->World->Prop):Prop:=
 ∃fn tmps assign body,(Instr.yield l args).run P W= .ok (.round l fn tmps assign body) W/\RoundIn Fence.wide 0 P l fn tmps assign body W R
def YB(P:Program)(gf:Nat)(cs:List Value)(xs:List ByteArray):Prop:=
 (∃fn,P.funcs[gf]? =some fn/\fn.body.isSome=true/\(fn.name== "runtime.NumGoroutine")=false)/\
 ∀(l:Nat)(as:List (Nat×Nat))(W:World)(J:Nat->World->Prop)(Jx:World->Prop),as.length=cs.length->(as.map (·.1)).Nodup->
  (∀(i:Nat)a v,as[i]? =some a->cs[i]? =some v->W.cell? ⟨a.1,a.2,none⟩=some v/\W.frozen? ⟨a.1,a.2,none⟩=false)->
  (∀k W W',J k W->W.heap.size<=W'.heap.size->(∀b,b<W.heap.size->(∀a,a∈as->b≠a.1)->W'.heap[b]? =W.heap[b]?)->W'.os=W.os->W'.tape=W.tape->W'.output=W.output->J k W')->
  (∀W W',Jx W->W.heap.size<=W'.heap.size->(∀b,b<W.heap.size->(∀a,a∈as->b≠a.1)->W'.heap[b]? =W.heap[b]?)->W'.os=W.os->W'.tape=W.tape->W'.output=W.output->Jx W')->
  (∀k y W,xs[k]? =some y->J k W->Ul P l #[.string y] W λe W'=>
   (e= .returned (.bool true)/\J (k+1) W'/\W.heap.size<=W'.heap.size/\∀a,a∈as->W'.heap[a.1]? =W.heap[a.1]?)\/(e= .returned (.bool false)/\Jx W'))->
  J 0 W->
  CallsIn Fence.wide 0 P gf (#[.func (.yield l) #[] #[]]++(sD as).toArray) W λe W'=>(∃v,e= .returned v)/\(J xs.length W'\/Jx W')
def acJ(n0:Nat){α:Type}(J:Nat->α->Prop)(S:α->St)(k:Nat)(aY:List CV)(K:Ex->St->Prop)(ex:Ex)(s:St):Prop:=
 match ex with
 | .normal=>∃a,J (k+1) a/\View n0 ⟨aY,s.mem⟩ (S a)
 | .exit id=>K (.exit id) ⟨aY,s.mem⟩
 | .ret=>K .ret ⟨aY,s.mem⟩
def RA(P:Program)(cg:List LO)(K:Ex->St->Prop)(s:St):List mJ->Prop
 | []=>True
 | [x]=>we P cg x [] (Ko K) s.aY s.mem
 |x::y::r=>we P cg x [] (Ko K) s.aY s.mem/\RA P cg K s (y::r)
def aw(P:Program)(n0:Nat):LC->(Ex->St->Prop)->St->Prop
 | .skip,K,s=>K .normal s
 | .qU ops,K,s=>Km P ops (Ko K) s.aY s.mem
 | .iK cg rA,K,s=>RA P cg K s rA
 | .seq a b,K,s=>aw P n0 a (ow (aw P n0 b) K) s
 | .cond x a b,K,s=>match x.ev s.aY with
  | .rv (.one (.ai (.val (.bool t))))=>bB t
   (jH (Vz x (aq true) s.aY) λe=>aw P n0 a K ⟨e,s.mem⟩)
   (jH (Vz x (aq false) s.aY) λe=>aw P n0 b K ⟨e,s.mem⟩)
  |_=>False
 | .block id b,K,s=>aw P n0 b (FM id K) s
 | .loop b,K,s=>∃(α:Type)(J:α->Prop)(S:α->St)(μ:α->Nat),(∃a,J a/\View n0 s (S a))/\∀a,J a->aw P n0 b (IE n0 J S μ (μ a) K) (S a)
 | .exit id,K,s=>K (.exit id) s
 | .ret,K,s=>K .ret s
 | .q9 a,K,s=>∃s',View n0 s s'/\aw P n0 a K s'
 | .zC x p la lb,K,s=>∃(gf:Nat)(kY:List Nat)(cs:List Value)(xs:List ByteArray)(α:Type)(J:Nat->α->Prop)(S:α->St),
   x.ev s.aY= .rv (.one (.fn gf kY))/\BB s.mem kY cs/\(kY.Nodup/\kY≠[])/\YB P gf cs xs/\(∃a,J 0 a/\View n0 ⟨s.aY,rb s.mem kY⟩ (S a))/\
   (∀k y a,xs[k]? =some y->J k a->sy (S a).mem λn1=>aw P n1 la (λex s2=>match ex with
    | .normal=>sy s2.mem λn2=>aw P n2 lb (acJ n0 J S k (S a).aY K) s2
    |_=>False) ⟨aX (S a).aY p (dM y),(S a).mem⟩)/\
   ∀a,J xs.length a->K .normal (S a)
def Df(P:Program)(s:St):List Rv->(List RV->Prop)->Prop
 | [],K=>K []
 | .tmp t::r,K=>ok (FF (lm s.aY t)) λv=>Df P s r λvs=>K (v::vs)
 | .cell agg n t::r,K=>w8 s.aY s.mem agg n (lm s.aY t) λv=>ok (FF v) λv=>Df P s r λvs=>K (v::vs)
def VB:List RV->CV
 | [r]=>.rv r
 |rs=>.bG rs
def nu(P:Program)(lM:List Rv)(K:CV->Mem->Prop)(ex:Ex)(s:St):Prop:=
 match ex with
 | .exit _=>False
 |_=>Df P s lM λvs=>K (VB vs) s.mem
def body(P:Program)(lf:LF)(args:List CV)(m:Mem)(K:CV->Mem->Prop):Prop:=
 jH (fT args (gP (lf.n-args.length) .undef)) λe=>sy m λn0=>aw P n0 lf.code (nu P lf.lM K) ⟨e,m⟩
abbrev qm(d s:Nat):LO:=⟨some d,.Iv (.t s),none⟩
abbrev qu(d:Nat)(i:I):LO:=⟨some d,i,none⟩
abbrev qw(i:I):LO:=⟨none,i,none⟩
abbrev qg(d:Nat)(i:I)(s:Nat)(b:Bool):LO:=⟨some d,i,some (s,b)⟩
abbrev qf(d k s:Nat):LO:=⟨some d,.kp k (.t s),none⟩
abbrev ql(d s:Nat):LO:=⟨some d,.load false 1 (.t s),none⟩
abbrev qL(d n s:Nat):LO:=⟨some d,.load true n (.t s),none⟩
abbrev qi(n:Int):X:= .c (.rv (.one (.ai (.val (.int .i64 n)))))
abbrev qb(b:Bool):X:= .c (.rv (.one (.ai (.val (.bool b)))))
abbrev qe:X:= .c (.rv (.one .bt))
abbrev qd(n:Int):CC:= .ai (.val (.int .i64 n))
abbrev qc(f:Nat)(a:List X):I:= .call (.c (.rv (.one (.fn f [])))) a
instance(n:Nat):OfNat X n:=⟨.t n⟩
abbrev d9:Nat->Nat->mJ->mJ
  |0,_,t=>t
  |n+1,i,t=>.cons i none (d9 n (i+1) t)
end Go.AM
