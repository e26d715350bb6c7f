/- Part 2 of 23. -/
import Derived.Test.YtllkfpggoigbaaaGreatDoorW01
import Derived.Laws.BytesArg
import Derived.RangeFuncLeaves
import Derived.RangeFuncRecord
set_option linter.unusedVariables false
set_option linter.unusedSimpArgs false
set_option linter.unnecessarySimpa false
set_option maxRecDepth 100000
set_option maxHeartbeats 0
namespace Go.AM
inductive X where
 |t (n:Nat)
 |c (v:CV)
inductive Kd where
 |b
 |i
 |s
inductive Ky where
 |i (k:IntKind)
 |s
 |b
inductive I where
 |WB (x:X)
 |pick (c a b:X)
 |alloc (z:List CC)
 |box (x:X)
 |build (z:List CC) (parts:List (Nat×Nat×X))
 |Zi (esz:Nat) (z:List CC) (len:Nat) (parts:List (Nat×X))
 |load (agg:Bool) (n:Nat) (a:X)
 |store (n:Nat) (a x:X)
 |K8 (off:Nat) (a:X)
 |ZO (agg:Bool) (off n:Nat) (a:X)
 |ZP (esz:Nat) (a i:X)
 |N3 (len esz:Nat) (a i:X)
 |K9 (a i:X)
 |N4 (op:BinOp) (x y:X)
 |Sz (neg:Bool) (ks:List Kd) (x y:X)
 |beq (neg:Bool) (x y:X)
 |un (op:UnOp) (x:X)
 |conv (k:IntKind) (x:X)
 |ZQ (x:X)
 |s2b (x:X)
 |b2s (x:X)
 |WC (esz:Nat) (x:X) (lo hi mx:Option X)
 |La (x:X) (lo hi:Option X)
 |fn (f:Nat) (fc:List X)
 |len (k:Nat) (x:X)
 |WD (esz bytes:Nat) (dst src:X)
 |call (f:X) (args:List X)
 |ext (x:X) (i:Nat)
 |N5 (x:X)
 |N6 (neg:Bool) (x:X)
 |DQ
 |xx (esz bytes:Nat) (z:List CC) (n c:X)
 |SA (z:RV) (kk:Ky) (m k:X) (ok:Bool)
 |SB (kk:Ky) (m k v:X)
 |sf (mx:Bool) (xs:List X)
 |aet (m k:X)
 |copy (esz:Nat) (dst src:X)
 |clr (esz:Nat) (z:List CC) (x:X)
 |N7 (agg:Bool) (n sz:Nat) (x i:X)
 |idb (x:X)
structure LO where
 dst:Option Nat
 AQ:I
 guard:Option (Nat×Bool)
inductive ng where
 |nil
 |cons (i:Nat) (N8:Option (List Nat)) (r:ng)
 |z7 (a b:ng)
inductive LC where
 |skip
 |DD (ops:List LO)
 |jF (cy:List LO) (sh:List ng)
 |seq (a b:LC)
 |cond (x:X) (a b:LC)
 |block (id:Nat) (b:LC)
 |loop (b:LC)
 |exit (id:Nat)
 |ret
 |rO (a:LC)
 |Ah (x:X) (p:Nat) (a b:LC)
def LC.er:LC->LC
 | .seq a b=>.seq a.er b.er
 | .cond x a b=>.cond x a.er b.er
 | .block id b=>.block id b.er
 | .loop b=>.loop b.er
 | .rO a=>a.er
 | .Ah x p a b=>.Ah x p a.er b.er
 | .skip=>.skip
 | .DD ops=>.DD ops
 | .jF a b=>.jF a b
 | .exit id=>.exit id
 | .ret=>.ret
def LC.te:LC->Bool
 | .seq a b=>a.te&&b.te
 | .cond _ a b=>a.te&&b.te
 | .block _ b=>b.te
 | .loop b=>b.te
 | .rO a=>a.te
 | .Ah _ _ _ _=>false
 |_=>true
inductive Rv where
 |tmp (t:Nat)
 |cell (agg:Bool) (n:Nat) (t:Nat)
structure LF where
 n:Nat
 mr:List Rv
 code:LC
def LF.er(f:LF):LF:=⟨f.n,f.mr,f.code.er⟩
def dp{α:Type}:List α->Nat->Option α
 | [],_=>none
 |x::_,0=>some x
 |_::r,k+1=>dp r k
def aZ{α:Type}:List α->Nat->α->List α
 | [],_,_=>[]
 |_::r,0,y=>y::r
 |x::r,k+1,y=>x::aZ r k y
def kg{α:Type}{β:Sort _}:List α->(List α->β)->β
 | [],k=>k []
 |x::r,k=>kg r λr'=>k (x::r')
def lV:List CV->Nat->CV
 | [],_=>.aL
 |x::_,0=>x
 |_::r,k+1=>lV r k
def X.ev(e:List CV):X->CV
 | .t n=>lV e n
 | .c v=>v
def ok{α:Type}(o:Option α)(K:α->Prop):Prop:= @Option.rec α (λ_=>Prop) False K o
def bB(t:Bool)(A B:Prop):Prop:= @Bool.rec (λ_=>Prop) B A t
def kh:List CC->Nat->Nat->Option (List CC)
 |_,0,0=>some []
 | [],_,_=>none
 |c::cs,0,n+1=>match kh cs 0 n with|some l=>some (c::l)|none=>none
 |_::cs,j+1,n=>kh cs j n
def iS:List CC->Nat->List CC->Option (List CC)
 |cs,0,[]=>some cs
 | [],_,_=>none
 |_::cs,0,x::xs=>match iS cs 0 xs with|some l=>some (x::l)|none=>none
 |c::cs,j+1,xs=>match iS cs j xs with|some l=>some (c::l)|none=>none
def xS:List Dt->Nat->Option (List CC)
 |_,0=>some []
 | [],_+1=>none
 |d::ds,n+1=>match xS ds n with|some l=>some (.ai d::l)|none=>none
def cellsOf:CV->Option (List CC)
 | .rv (.one c)=>some [c]
 | .rv (.agg cs)=>some cs
 |_=>none
def Gr:CV->Option RV
 | .rv r=>some r
 |_=>none
def N9(agg:Bool)(l:List CC):Option CV:=
 match agg,l with
 |true,l=>some (.rv (.agg l))
 |false,[c]=>some (.rv (.one c))
 |false,_=>none
def kj:List CC->Bool
 | []=>true
 | .jj _ _::_=>false
 |_::r=>kj r
def cH{α:Type}(l:List α):Int->Option α
 | .ofNat k=>dp l k
 | .negSucc _=>none
def dW(n:Int)(len:Nat):Option Nat:=
 match n with
 | .ofNat k=>match Nat.blt k len with|true=>some k|false=>none
 | .negSucc _=>none
def gl(a b:Nat):Nat:=match a with|0=>b|a=>a+b
def lenOf(elems:Nat)(lo:Nat)(hi:Option Nat):Nat:=
 match lo,hi with
 |0,none=>elems
 |0,some h=>h
 |lo,none=>elems-lo
 |lo,some h=>h-lo
def bt{α:Type}(l:List α)(lo:Nat)(hi:Option Nat):List α:=
 match lo,hi with
 |0,none=>l
 |0,some h=>l.take h
 |lo,none=>l.drop lo
 |lo,some h=>(l.take h).drop lo
def qq(e:List CV):List CC->List (Nat×Nat×X)->Option (List CC)
 |z,[]=>some z
 |z,(off,sz,x)::r=>match cellsOf (x.ev e)with
  |some cs=>match Nat.beq cs.length sz with
   |true=>match iS z off cs with
    |some z'=>qq e z' r
    |none=>none
   |false=>none
  |none=>none
def v7(e:List CV)(esz:Nat):List (List CC)->List (Nat×X)->Option (List (List CC))
 |z,[]=>some z
 |z,(i,x)::r=>match cellsOf (x.ev e)with
  |some cs=>match Nat.beq cs.length esz&&Nat.blt i z.length with
   |true=>v7 e esz (aZ z i cs) r
   |false=>none
  |none=>none
def iu{α:Type}:Nat->α->List α
 |0,_=>[]
 |n+1,x=>x::iu n x
def Jd(e:List CV):List X->List CV
 | []=>[]
 |x::r=>x.ev e::Jd e r
def xT:List CV->Option (List Nat)
 | []=>some []
 | .rv (.one (.ptr id 0))::r=>match xT r with|some l=>some (id::l)|none=>none
 |_=>none
def xy:List Nat->List CV
 | []=>[]
 |id::r=>.rv (.one (.ptr id 0))::xy r
def gC{α:Type}:List α->List α->List α
 | [],l=>l
 |x::r,l=>x::gC r l
def xU{β:Sort _}(m0:Mem):Mem->List Nat->(Nat->β)->β
 | [],n::_,k=>k n
 |_::r,_::ls,k=>xU m0 r ls k
 |_,[],k=>k m0.length
def tf{β:Sort _}(m:Mem)(k:Nat->β):β:=
 xU m m [0,1,2,3,4,5,6,7,8,9,10,11,12,13,14,15,16,17,18,19,20,21,22,23,24,25,26,27,28,29,30,31,32,33,34,35,36,37,38,39,40,41,42,43,44,45,46,47,48,49,50,51,52,53,54,55,56,57,58,59,60,61,62,63] k
def am(k:IntKind)(n:Int):CV:= .rv (.one (.ai (.val (.int k n))))
def ar(b:Bool):CV:= .rv (.one (.ai (.val (.bool b))))
def ei(s:ByteArray):CV:= .rv (.one (.ai (.val (.string s))))
def DR(op:BinOp):Value->Value->Option Value
 | .int k a,.int k' b=>
  match op with
  | .shl=>match decide (b<0)with|false=>some (.int k (k.wrap (a*2^(min b.toNat k.bits))))|true=>none
  | .shr=>match decide (b<0)with|false=>some (.int k (a.fdiv (2^(min b.toNat k.bits))))|true=>none
  |op=>match decide (k=k')with
   |false=>none
   |true=>match op with
    | .add=>some (.int k (k.wrap (a+b)))
    | .sub=>some (.int k (k.wrap (a-b)))
    | .mul=>some (.int k (k.wrap (a*b)))
    | .quo=>match decide (b=0)with|false=>some (.int k (k.wrap (a.tdiv b)))|true=>none
    | .rem=>match decide (b=0)with|false=>some (.int k (a.tmod b))|true=>none
    | .and=>some (.int k (k.wrap (BitVec.ofInt k.bits a&&&BitVec.ofInt k.bits b).toNat))
    | .or=>some (.int k (k.wrap (BitVec.ofInt k.bits a|||BitVec.ofInt k.bits b).toNat))
    | .xor=>some (.int k (k.wrap (BitVec.ofInt k.bits a^^^BitVec.ofInt k.bits b).toNat))
    | .andNot=>some (.int k (k.wrap (BitVec.ofInt k.bits a&&& ~~~ BitVec.ofInt k.bits b).toNat))
    | .eql=>some (.bool (a==b))
    | .neq=>some (.bool (a !=b))
    | .lss=>some (.bool (decide (a<b)))
    | .leq=>some (.bool (decide (a<=b)))
    | .gtr=>some (.bool (decide (a>b)))
    | .geq=>some (.bool (decide (a>=b)))
    |_=>none
 | .string a,.string b=>
  match op with
  | .add=>match decide (((a.size+b.size:Nat):Int)>IntKind.i64.max)with|false=>some (.string (a++b))|true=>none
  | .eql=>some (.bool (a.toList==b.toList))
  | .neq=>some (.bool (!(a.toList==b.toList)))
  | .lss=>some (.bool (Op.bytesLess a.toList b.toList))
  | .leq=>some (.bool (Op.bytesLess a.toList b.toList||a.toList==b.toList))
  | .gtr=>some (.bool (!(Op.bytesLess a.toList b.toList||a.toList==b.toList)))
  | .geq=>some (.bool (!(Op.bytesLess a.toList b.toList)))
  |_=>none
 |_,_=>none
def unV(op:UnOp):Value->Option Value
 | .bool b=>match op with| .not=>some (.bool (!b))|_=>none
 | .int k n=>match op with| .neg=>some (.int k (k.wrap (0-n)))|_=>none
 |_=>none
def SC:Kd->Value->Value->Option Bool
 | .i,.int k a,.int k' b=>match decide (k=k')with|true=>some (a==b)|false=>none
 | .s,.string a,.string b=>some (a.toList==b.toList)
 | .b,.bool a,.bool b=>some (a==b)
 |_,_,_=>none
def lW:List Kd->List CC->List CC->Option Bool
 | [],[],[]=>some true
 |k::ks,.ai (.val a)::r,.ai (.val b)::s=>match SC k a b,lW ks r s with
  |some x,some y=>some (x&&y)
  |_,_=>none
 |_,_,_=>none
def aq(P:Program)(f:Nat)(args:List CV)(m:Mem)(K:CV->Mem->Prop):Prop:=
 (∃fn,P.funcs[f]? =some fn/\fn.body.isSome=true/\(fn.name== "runtime.NumGoroutine")=false)/\
 ∀(ρ:b9)(w:World)(vs:List Value),aN ρ m w->vs.length=args.length->(∀(i:Nat)c,args[i]? =some c->∃v,vs[i]? =some v/\cG ρ w c v)->
  Calls P f vs.toArray w λe w'=>∃v r m' U',e= .returned v/\K r m'/\aN U' m' w'/\cG U' w' r v/\Ext ρ m w U' m' w'
def fV{β:Sort _}(v:CV)(k:CV->β):β:=
 match v with
 | .aL=>k .aL
 | .undef=>k .undef
 | .rv r=>match r with
  | .one c=>k (.rv (.one c))
  | .agg cs=>kg cs λcs=>k (.rv (.agg cs))
 | .bI rs=>k (.bI rs)
def rP(a b:Value):Option Bool:=
 match a,b with
 | .int k x,.int k' y=>match decide (k=k')with|true=>some (x==y)|false=>none
 | .string x,.string y=>some (x==y)
 | .bool x,.bool y=>some (x==y)
 |_,_=>none
def ti(k:Value):List ME->Option (Option RV)
 | []=>some none
 |e::es=>match rP k e.key with
  |some true=>some (some e.val)
  |some false=>ti k es
  |none=>none
def B8(k:Value)(v:RV):List ME->Option (List ME)
 | []=>some [⟨k,v⟩]
 |e::es=>match rP k e.key with
  |some true=>some (⟨k,v⟩::es)
  |some false=>match B8 k v es with|some l=>some (e::l)|none=>none
  |none=>none
def xV(e:List CV)(m:Mem)(agg:Bool)(n:Nat)(a:CV)(K:CV->Prop):Prop:=
 match a with
 | .rv (.one (.ptr id j))=>ok (dp m id) λbk=>match bk with
  | .var cs=>ok (kh cs j n) λl=>ok (N9 agg l) K
  |_=>False
 | .rv (.one (.oU id esz i j))=>ok (dp m id) λbk=>match bk with
  | .row qt elems=>bB (Nat.beq esz qt) (ok (dp elems i) λcells=>ok (kh cells j n) λl=>bB (kj l) (ok (N9 agg l) K) False) False
  |_=>False
 | .rv (.one (.tc ds))=>ok (xS ds n) λl=>ok (N9 agg l) K
 |_=>False
def gm(m:Mem)(esz:Nat)(v:CV):Option (List (List CC)):=
 match v with
 | .rv (.one (.ai (.sl e elems)))=>match Nat.beq e esz with
  |true=>some (elems.map λds=>ds.map .ai)
  |false=>none
 | .rv (.one (.row id e lo hi))=>match dp m id with
  |some (.row e2 rows)=>match Nat.beq e esz,Nat.beq e2 esz with
   |true,true=>some (bt rows lo hi)
   |_,_=>none
  |_=>none
 | .rv (.one .bv)=>some []
 |_=>none
def j8(m:Mem)(v:CV):Mem:=
 match v with
 | .rv (.one (.row id _ _ _))=>aZ m id .aE
 |_=>m
def xW(v:CV):Bool:=
 match v with
 | .rv (.one (.row _ _ _ _))=>true
 | .rv (.one .bv)=>true
 |_=>false
def Je(a b:CV):Bool:=
 match a,b with
 | .rv (.one (.row i _ _ _)),.rv (.one (.row j _ _ _))=>!(Nat.beq i j)
 |_,_=>true
def CC.kj:CC->Bool
 | .jj _ _=>false
 |_=>true
def si:List CC->Bool
 | []=>true
 |c::r=>c.kj&&si r
def gu:List (List CC)->Bool
 | []=>true
 |c::r=>si c&&gu r
def dm{α:Type}(l:List α)(h:Nat)(E:List α):List α:=l.take h++(E++l.drop (h+E.length))
def sj(hi:Option Nat)(n:Nat):Nat:=match hi with|some h=>h|none=>n
def pV(v:CV):Option Nat:=
 match v with
 | .rv (.one (.ai (.val (.int _ (.ofNat k)))))=>some k
 |_=>none
def mw(e:List CV)(o:Option X)(d:Nat):Option Nat:=
 match o with
 |none=>some d
 |some x=>pV (x.ev e)
def isZ(v:CV):Bool:=
 match v with
 | .rv (.one (.ai (.val (.int _ n))))=>decide (n=0)
 |_=>false
def Gs(e:List CV)(o:Option X):Bool:=
 match o with
 |none=>false
 |some x=>isZ (x.ev e)
def Oa(v:CV):Bool:=
 match v with
 | .rv (.one (.ai (.sl _ _)))=>true
 | .rv (.one (.row _ _ _ _))=>true
 | .rv (.one .bv)=>true
 |_=>false
def xX:List (List CC)->Option (List Int)
 | []=>some []
 | [.ai (.val (.int .u8 n))]::r=>match xX r with|some l=>some (n::l)|none=>none
 |_=>none
def so(s:ByteArray):List (List CC):=s.data.toList.map λb=>[.ai (.val (.int .u8 b.toNat))]
def Oc(m:Mem)(v:CV):Option (List ME):=
 match v with
 | .rv (.one (.map id))=>match dp m id with|some (.mp es)=>some es|_=>none
 | .rv (.one (.ai (.val (.map none))))=>some []
 |_=>none
def Ai:Ky->Value->Bool
 | .i k,.int k' _=>decide (k'=k)
 | .s,.string _=>true
 | .b,.bool _=>true
 |_,_=>false
def ZR(okF:Bool)(z:RV)(o:Option RV):CV:=
 match okF,o with
 |false,none=>.rv z
 |false,some v=>.rv v
 |true,none=>.bI [z,.one (.ai (.val (.bool false)))]
 |true,some v=>.bI [v,.one (.ai (.val (.bool true)))]
def step(P:Program)(i:I)(e:List CV)(m:Mem)(K:CV->Mem->Prop):Prop:=
 match i with
 | .WB x=>K (x.ev e) m
 | .pick c a b=>match c.ev e with
  | .rv (.one (.ai (.val (.bool t))))=>bB t (K (a.ev e) m) (K (b.ev e) m)
  |_=>False
 | .alloc z=>tf m λn=>K (.rv (.one (.ptr n 0))) (gC m [.var z])
 | .box x=>ok (cellsOf (x.ev e)) λcs=>tf m λn=>K (.rv (.one (.ptr n 0))) (gC m [.var cs])
 | .build z ps=>ok (qq e z ps) λcs=>K (.rv (.agg cs)) m
 | .Zi esz z len ps=>ok (v7 e esz (iu len z) ps) λrows=>kg rows λrows=>tf m λn=>K (.rv (.one (.row n esz 0 none))) (gC m [.row esz rows])
 | .load agg n a=>xV e m agg n (a.ev e) λv=>K v m
 | .store n a x=>ok (cellsOf (x.ev e)) λxs=>bB (Nat.beq xs.length n) (match a.ev e with
  | .rv (.one (.ptr id j))=>ok (dp m id) λbk=>match bk with
   | .var cs=>ok (iS cs j xs) λfD=>K .undef (aZ m id (.var fD))
   |_=>False
  | .rv (.one (.oU id esz i j))=>ok (dp m id) λbk=>match bk with
   | .row qt elems=>bB (Nat.beq esz qt) (ok (dp elems i) λcells=>bB (kj cells) (ok (iS cells j xs) λfW=>K .undef (aZ m id (.row qt (aZ elems i fW)))) False) False
   |_=>False
  |_=>False) False
 | .K8 off a=>match a.ev e with
  | .rv (.one (.ptr id j))=>K (.rv (.one (.ptr id (j+off)))) m
  | .rv (.one (.oU id esz i j))=>K (.rv (.one (.oU id esz i (j+off)))) m
  | .rv (.one (.tc ds))=>K (.rv (.one (.tc (ds.drop off)))) m
  |_=>False
 | .ZO agg off n a=>match a.ev e with
  | .rv (.agg cs)=>ok (kh cs off n) λl=>ok (N9 agg l) λv=>K v m
  |_=>False
 | .ZP esz a i=>match i.ev e with
  | .rv (.one (.ai (.val (.int _ n))))=>match a.ev e with
   | .rv (.one (.ai (.sl qt elems)))=>bB (Nat.beq esz qt) (ok (cH elems n) λds=>K (.rv (.one (.tc ds))) m) False
   | .rv (.one (.row id qt lo hi))=>ok (dp m id) λbk=>match bk with
    | .row Aj elems=>bB (Nat.beq esz qt) (bB (Nat.beq esz Aj) (ok (dW n (lenOf elems.length lo hi)) λk=>K (.rv (.one (.oU id esz (gl lo k) 0))) m) False) False
    |_=>False
   |_=>False
  |_=>False
 | .N3 len esz a i=>match i.ev e with
  | .rv (.one (.ai (.val (.int _ n))))=>match a.ev e with
   | .rv (.one (.ptr id j))=>ok (dW n len) λk=>K (.rv (.one (.ptr id (j+k*esz)))) m
   | .rv (.one (.oU id s i' j))=>ok (dW n len) λk=>K (.rv (.one (.oU id s i' (j+k*esz)))) m
   | .rv (.one (.tc ds))=>ok (dW n len) λk=>K (.rv (.one (.tc (ds.drop (k*esz))))) m
   |_=>False
  |_=>False
 | .K9 a i=>match i.ev e with
  | .rv (.one (.ai (.val (.int _ n))))=>match a.ev e with
   | .rv (.one (.ai (.val (.string s))))=>ok (cH s.data.toList n) λb=>K (am .u8 b.toNat) m
   |_=>False
  |_=>False
 | .N4 op x y=>match x.ev e with
  | .rv (.one (.ai (.val a)))=>match y.ev e with
   | .rv (.one (.ai (.val b)))=>ok (DR op a b) λv=>K (.rv (.one (.ai (.val v)))) m
   |_=>False
  |_=>False
 | .Sz neg n x y=>match x.ev e with
  | .rv (.agg cs)=>match y.ev e with
   | .rv (.agg ds)=>ok (lW n cs ds) λb=>K (ar (match neg with|true=>!b|false=>b)) m
   |_=>False
  |_=>False
 | .beq neg x y=>match x.ev e with
  | .rv (.one (.ai (.val (.bool a))))=>match y.ev e with
   | .rv (.one (.ai (.val (.bool b))))=>K (ar (match neg with|true=>!(a==b)|false=>a==b)) m
   |_=>False
  |_=>False
 | .un op x=>match x.ev e with
  | .rv (.one (.ai (.val a)))=>ok (unV op a) λv=>K (.rv (.one (.ai (.val v)))) m
  |_=>False
 | .conv k x=>match x.ev e with
  | .rv (.one (.ai (.val (.int _ n))))=>K (am k (k.wrap n)) m
  |_=>False
 | .ZQ x=>match x.ev e with
  | .rv (.one (.ai (.val (.string s))))=>K (ei s) m
  |_=>False
 | .fn f fc=>ok (xT (Jd e fc)) λlN=>K (.rv (.one (.fn f lN))) m
 | .len 1 x=>match x.ev e with
  | .rv (.one (.ai (.sl _ elems)))=>K (am .i64 (elems.length:Int)) m
  | .rv (.one (.row id _ lo hi))=>ok (dp m id) λbk=>match bk with
   | .row _ elems=>K (am .i64 (lenOf elems.length lo hi:Int)) m
   |_=>False
  | .rv (.one .bv)=>K (am .i64 0) m
  |_=>False
 | .len 0 x=>match x.ev e with
  | .rv (.one (.ai (.val (.string s))))=>K (am .i64 (s.size:Int)) m
  |_=>False
 | .len 2 x=>match x.ev e with
  | .rv (.one (.map id))=>ok (dp m id) λbk=>match bk with
   | .mp es=>K (am .i64 (es.length:Int)) m
   |_=>False
  |_=>False
 | .call f args=>match f.ev e with
  | .rv (.one (.fn f fc))=>aq P f (gC (Jd e args) (xy fc)) m K
  |_=>False
 | .ext x i=>match x.ev e with
  | .bI rs=>ok (dp rs i) λr=>K (.rv r) m
  |_=>False
 | .WD esz bytes dst src=>bB (xW (dst.ev e)&&Je (dst.ev e) (src.ev e)) (ok (gm m esz (dst.ev e)) λE1=>ok (gm m esz (src.ev e)) λE2=>
   (E1.length+E2.length)*bytes<=140737488355328/\tf m λn=>K (.rv (.one (.row n esz 0 none))) (gC (j8 (j8 m (dst.ev e)) (src.ev e)) [.row esz (E1++E2)]))
   (match dst.ev e with
   | .rv (.one (.row id e1 lo (some h)))=>ok (dp m id) λbk=>match bk with
    | .row e2 rows=>ok (gm m esz (src.ev e)) λE2=>bB (Nat.beq lo 0&&(Nat.beq e1 esz&&(Nat.beq e2 esz&&(Nat.ble 1 rows.length&&(Nat.ble (h+E2.length) rows.length&&gu E2)))))
     (rows.length*bytes<=140737488355328/\K (.rv (.one (.row id esz 0 (some (h+E2.length))))) (aZ m id (.row esz (dm rows h E2)))) False
    |_=>False
   |_=>False)
 | .N6 neg x=>match x.ev e with
  | .rv (.one (.ai (.sl _ elems)))=>bB (Nat.beq elems.length 0) (K (ar true) m/\K (ar false) m) (K (ar neg) m)
  | .rv (.one (.row id _ lo hi))=>ok (dp m id) λbk=>match bk with
   | .row _ elems=>bB (Nat.beq (lenOf elems.length lo hi) 0) (K (ar true) m/\K (ar false) m) (K (ar neg) m)
   |_=>False
  | .rv (.one .bv)=>K (ar true) m/\K (ar false) m
  |_=>False
 | .WC esz x lo hi (some mx)=>bB (lo.isNone&&Gs e hi&&isZ (mx.ev e)&&Oa (x.ev e)) (K (.rv (.one .bv)) m)
   (ok (mw e lo 0) λl=>ok (gm m esz (x.ev e)) λE=>ok (mw e hi E.length) λh=>ok (pV (mx.ev e)) λZS=>bB (lo.isSome&&(hi.isSome&&(Nat.ble l h&&(Nat.ble h ZS&&Nat.ble ZS E.length)))) (K .aL m) False)
 | .WC esz x lo hi none=>ok (mw e lo 0) λl=>match x.ev e with
  | .rv (.one (.ai (.sl e2 elems)))=>bB (Nat.beq e2 esz) (ok (mw e hi elems.length) λh=>bB (Nat.ble l h&&Nat.ble h elems.length) (K (.rv (.one (.ai (.sl esz ((elems.take h).drop l))))) m) False) False
  | .rv (.one (.row id e2 Gt s7))=>ok (dp m id) λbk=>match bk with
   | .row _ elems=>bB (Nat.beq e2 esz) (ok (mw e hi (lenOf elems.length Gt s7)) λh=>bB (Nat.ble l h&&Nat.ble h (elems.length-Gt)) (K (.rv (.one (.row id esz (gl Gt l) (some (gl Gt h))))) m) False) False
   |_=>False
  |_=>False
 | .La x lo hi=>match x.ev e with
  | .rv (.one (.ai (.val (.string s))))=>ok (mw e lo 0) λl=>ok (mw e hi s.size) λh=>bB (Nat.ble l h&&Nat.ble h s.size) (K (ei (s.extract l h)) m) False
  |_=>False
 | .N5 x=>match x.ev e with
  | .rv (.one (.ptr id j))=>K (.rv (.one (.ptr id j))) m
  | .rv (.one (.oU id s i j))=>K (.rv (.one (.oU id s i j))) m
  | .rv (.one (.tc ds))=>K (.rv (.one (.tc ds))) m
  |_=>False
 | .b2s x=>ok (gm m 1 (x.ev e)) λE=>ok (xX E) λxs=>K (ei (strOfNums xs)) m
 | .s2b x=>match x.ev e with
  | .rv (.one (.ai (.val (.string s))))=>s.size<=140737488355328/\tf m λn=>K (.rv (.one (.row n 1 0 none))) (gC m [.row 1 (so s)])
  |_=>False
 | .sf mx [x,y]=>match x.ev e with
  | .rv (.one (.ai (.val (.int k a))))=>match y.ev e with
   | .rv (.one (.ai (.val (.int _ b))))=>match mx with
    |true=>K (am k (if b>a then b else a)) m
    |false=>K (am k (if b<a then b else a)) m
   |_=>False
  |_=>False
 | .idb x=>match x.ev e with
  | .rv (.one (.row id e1 lo hi))=>ok (dp m id) λbk=>match bk with
   | .row esz rows=>bB (Nat.beq esz 1&&Nat.blt lo rows.length) (K (.rv (.one (.row id e1 lo hi))) m) False
   |_=>False
  |_=>False
 | .clr esz z x=>match x.ev e with
  | .rv (.one (.row id e1 lo hi))=>ok (dp m id) λbk=>match bk with
   | .row e2 rows=>bB (Nat.beq e1 esz&&(Nat.beq e2 esz&&Nat.ble (sj hi rows.length) rows.length))
     (bB (Nat.blt lo (sj hi rows.length)) (K (.bI []) (aZ m id (.row esz (dm rows lo (iu (sj hi rows.length-lo) z))))) (K (.bI []) m)) False
   |_=>False
  | .rv (.one .bv)=>K (.bI []) m
  |_=>False
 | .copy esz d s=>ok (gm m esz (s.ev e)) λE=>bB (Nat.beq E.length 0) (bB (Oa (d.ev e)) (K (am .i64 0) m) False)
   (match d.ev e with
   | .rv (.one (.row id e1 lo hi))=>ok (dp m id) λbk=>match bk with
    | .row e2 rows=>bB (Nat.beq e1 esz&&(Nat.beq e2 esz&&(Nat.ble (sj hi rows.length) rows.length&&(Nat.ble (lo+E.length) (sj hi rows.length)&&gu E)))) (K (am .i64 (E.length:Int)) (aZ m id (.row esz (dm rows lo E)))) False
    |_=>False
   |_=>False)
 | .N7 agg n sz x i=>match i.ev e with
  | .rv (.one (.ai (.val (.int _ j))))=>match x.ev e with
   | .rv (.agg cs)=>ok (dW j n) λk=>ok (kh cs (k*sz) sz) λl=>ok (N9 agg l) λv=>K v m
   |_=>False
  |_=>False
 | .DQ=>tf m λn=>K (.rv (.one (.map n))) (gC m [.mp []])
 | .xx esz bytes z nx cx=>ok (pV (nx.ev e)) λl=>ok (pV (cx.ev e)) λc=>bB (Nat.beq l c) (c*bytes<=140737488355328/\tf m λn=>K (.rv (.one (.row n esz 0 none))) (gC m [.row esz (iu l z)])) False
 | .SA z kk mx kx okF=>match kx.ev e with
  | .rv (.one (.ai (.val kv)))=>bB (Ai kk kv) (ok (Oc m (mx.ev e)) λes=>ok (ti kv es) λo=>K (ZR okF z o) m) False
  |_=>False
 | .SB kk mx kx vx=>match mx.ev e with
  | .rv (.one (.map id))=>match kx.ev e with
   | .rv (.one (.ai (.val kv)))=>bB (Ai kk kv) (ok (dp m id) λbk=>match bk with
    | .mp es=>ok (Gr (vx.ev e)) λv=>ok (B8 kv v es) λfH=>K .undef (aZ m id (.mp fH))
    |_=>False) False
   |_=>False
  |_=>False
 |_=>False
def xY:Value->Option CC
 | .slice none 0 0=>some .bv
 |v=>match eE v with|true=>some (.ai (.val v))|false=>none
def bG:Operand->Option X
 | .tmp t=>some (.t t)
 | .const v=>(xY v).map λc=>.c (.rv (.one c))
 | .func f=>some (.c (.rv (.one (.fn f []))))
 | .global _=>none
def v8:List Operand->Option (List X)
 | []=>some []
 |x::r=>do some ((<-bG x)::(<-v8 r))
def jp:Option Operand->Option (Option X)
 |none=>some none
 |some x=>do some (some (<-bG x))
def fE(P:Program)(t:TypeId):Option Nat:=(P.info? t).map (·.size)
def fl(P:Program)(t:TypeId):Option Bool:=(P.underlying t).map λ| .struct _| .array _ _=>true|_=>false
def od:List Value->Option (List CC)
 | []=>some []
 |v::r=>do some ((<-xY v)::(<-od r))
def eV(P:Program)(t:TypeId):Option (List CC):=do od (<-(<-P.info? t).zero).cells.toList
def oe(P:Program)(fs:Array Field):List (Nat×Operand)->Option (List (Nat×Nat×X))
 | []=>some []
 |(i,x)::r=>do
  let f<-fs[i]?
  some ((f.offset,<-fE P f.type,<-bG x)::(<-oe P fs r))
def me(sz:Nat):List (Nat×Operand)->Option (List (Nat×Nat×X))
 | []=>some []
 |(i,x)::r=>do some ((i*sz,sz,<-bG x)::(<-me sz r))
def mf:List (Nat×Operand)->Option (List (Nat×X))
 | []=>some []
 |(i,x)::r=>do some ((i,<-bG x)::(<-mf r))
def DT(g:TypeId->Option (List Kd)):List Field->Nat->Option (List Kd)
 | [],_=>some []
 |f::r,off=>if f.name≠ "_" /\f.offset=off then
   match g f.type with
   |some ks=>match DT g r (off+ks.length)with
    |some ls=>some (ks++ls)
    |none=>none
   |none=>none
  else none
def flatK(P:Program):Nat->TypeId->Option (List Kd)
 |0,_=>none
 |d+1,t=>match P.underlying t with
  |some .bool=>if fE P t=some 1 then some [.b]else none
  |some (.int _)=>if fE P t=some 1 then some [.i]else none
  |some .string=>if fE P t=some 1 then some [.s]else none
  |some (.struct fs)=>if P.stoodInHeld t=false then
    match DT (flatK P d) fs.toList 0 with
    |some ks=>if fE P t=some ks.length then some ks else none
    |none=>none
   else none
  |_=>none
def Lb(P:Program)(t:TypeId):Option Ky:=
 match P.underlying t with
 |some (.int k)=>some (.i k)
 |some .string=>some .s
 |some .bool=>some .b
 |_=>none
def Jf(P:Program)(t:TypeId):Option RV:=do
 match (<-(<-P.info? t).zero)with
 | .agg cs=>do some (.agg (<-od cs.toList))
 |v=>do some (.one (<-xY v))
def xZ(P:Program)(o:Oper):Option I:=
 match o.op with
 | .move x| .assign x=>do some (.WB (<-bG x))
 | .pick c a b=>do some (.pick (<-bG c) (<-bG a) (<-bG b))
 | .alloc t=>do some (.alloc (<-eV P t))
 | .box _ x=>do some (.box (<-bG x))
 | .build t ps=>do
  let z<-eV P t
  match P.underlying t with
  |some (.struct fs)=>if(fs.toList.mapM (λf=>(P.info? f.type).map λi=>(f.offset,i.size))).isSome then some (.build z (<-oe P fs ps.toList))else none
  |some (.array _ e)=>some (.build z (<-me (<-fE P e) ps.toList))
  |_=>none
 | .buildSlice t n ps=>do
  match P.underlying t with
  |some (.slice e)=>
   let z<-eV P e
   if(<-fE P e)=z.length/\0<z.length/\n*z.length<=2^24 then some (.Zi z.length z n (<-mf ps.toList))else none
  |_=>none
 | .load t a=>do some (.load (<-fl P t) (<-fE P t) (<-bG a))
 | .store t a x=>do
  let n<-fE P t
  if n=0 then none else some (.store n (<-bG a) (<-bG x))
 | .fieldAddr t a k=>do
  match P.underlying t with
  |some (.struct fs)=>
   let f<-fs[k]?
   if(<-fE P f.type)=0 then none else some (.K8 f.offset (<-bG a))
  |_=>none
 | .field t a k=>do
  match P.underlying t with
  |some (.struct fs)=>
   let f<-fs[k]?
   some (.ZO (<-fl P f.type) f.offset (<-fE P f.type) (<-bG a))
  |_=>none
 | .indexAddr t a i=>do
  match P.underlying t with
  |some (.slice e)=>some (.ZP (<-fE P e) (<-bG a) (<-bG i))
  |some (.array n e)=>some (.N3 n (<-fE P e) (<-bG a) (<-bG i))
  |_=>none
 | .index t a i=>do
  match P.underlying t with
  |some .string=>some (.K9 (<-bG a) (<-bG i))
  |some (.array n e)=>some (.N7 (<-fl P e) n (<-fE P e) (<-bG a) (<-bG i))
  |_=>none
 | .binOp op t x y _=>do
  match P.underlying t with
  |some (.int _)|some .string=>some (.N4 op (<-bG x) (<-bG y))
  |some (.slice _)=>match y,op with
   | .const (.slice none 0 0),.eql=>some (.N6 false (<-bG x))
   | .const (.slice none 0 0),.neq=>some (.N6 true (<-bG x))
   |_,_=>none
  |some .bool=>match op with
   | .eql=>some (.beq false (<-bG x) (<-bG y))
   | .neq=>some (.beq true (<-bG x) (<-bG y))
   |_=>none
  |some (.array n e)=>match P.eqGuardType P.depth t,P.underlying e,fE P e,op with
   |false,some (.int _),some 1,.eql=>some (.Sz false (iu n .i) (<-bG x) (<-bG y))
   |false,some (.int _),some 1,.neq=>some (.Sz true (iu n .i) (<-bG x) (<-bG y))
   |_,_,_,_=>none
  |some (.struct _)=>match P.eqGuardType P.depth t,flatK P 5 t,op with
   |false,some ks,.eql=>some (.Sz false ks (<-bG x) (<-bG y))
   |false,some ks,.neq=>some (.Sz true ks (<-bG x) (<-bG y))
   |_,_,_=>none
  |_=>none
 | .unOp op _ x=>do some (.un op (<-bG x))
 | .convert s d x=>do
  match P.underlying s,P.underlying d with
  |some (.int _),some (.int k)=>some (.conv k (<-bG x))
  |some .string,some .string=>some (.ZQ (<-bG x))
  |some (.slice e),some .string=>match P.underlying e with
   |some (.int .u8)=>some (.b2s (<-bG x))
   |_=>none
  |some .string,some (.slice e)=>match P.underlying e with
   |some (.int .u8)=>some (.s2b (<-bG x))
   |_=>none
  |some (.slice _),some (.slice e)=>match s==d,P.underlying e with
   |true,some (.int .u8)=>some (.idb (<-bG x))
   |_,_=>none
  |_,_=>none
 | .makeMap t r=>match r,P.underlying t with
  |none,_=>some .DQ
  |some (.const (.int _ _)),some (.map _ _)=>some .DQ
  |_,_=>none
 | .makeSlice t l c=>do
  match P.underlying t with
  |some (.slice e)=>
   let i<-P.info? e;let z<-eV P e
   if i.size=z.length/\0<z.length/\0<i.bytes then some (.xx i.size i.bytes z (<-bG l) (<-bG c))else none
  |_=>none
 | .lookup t x k b=>do
  match P.underlying t with
  |some (.map kt vt)=>some (.SA (<-Jf P vt) (<-Lb P kt) (<-bG x) (<-bG k) b)
  |_=>none
 | .mapUpdate t x k v| .insert t x k v=>do
  match P.underlying t with
  |some (.map kt _)=>some (.SB (<-Lb P kt) (<-bG x) (<-bG k) (<-bG v))
  |_=>none
 | .makeFunc (.func f) fst fc=>if fst.size=0 then do some (.fn f (<-v8 fc.toList))else none
 | .extract x i=>do some (.ext (<-bG x) i)
 | .nilCheck x=>do some (.N5 (<-bG x))
 | .slice t x lo hi mx=>do
  match P.underlying t with
  |some (.slice e)=>some (.WC (<-fE P e) (<-bG x) (<-jp lo) (<-jp hi) (<-jp mx))
  |some .string=>match mx with
   |none=>some (.La (<-bG x) (<-jp lo) (<-jp hi))
   |some _=>none
  |_=>none
 | .call {callee:= .builtin .len,args,argTypes}=>do
  match args.toList,argTypes.toList with
  | [x],[t]=>match P.underlying t with
   |some .string=>some (.len 0 (<-bG x))
   |some (.slice _)=>some (.len 1 (<-bG x))
   |some (.map _ _)=>some (.len 2 (<-bG x))
   |_=>none
  |_,_=>none
 | .call {callee:= .builtin .append,args,argTypes}=>do
  match args.toList,argTypes.toList with
  | [x,y],[t,t2]=>match P.underlying t,P.underlying t2 with
   |some (.slice e),some (.slice e2)=>
    let i<-P.info? e;let z<-eV P e
    if i.size=z.length/\0<z.length/\0<i.bytes then some (.WD i.size i.bytes (<-bG x) (<-bG y))else none
   |_,_=>none
  |_,_=>none
 | .call {callee:= .builtin .max,args,..}=>do
  match args.toList with
  | [x,y]=>some (.sf true [<-bG x,<-bG y])
  |_=>none
 | .call {callee:= .builtin .min,args,..}=>do
  match args.toList with
  | [x,y]=>some (.sf false [<-bG x,<-bG y])
  |_=>none
 | .call {callee:= .builtin .clear,args,argTypes}=>do
  match args.toList,argTypes.toList with
  | [x],[t]=>match P.underlying t with
   |some (.slice e)=>
    let i<-P.info? e;let z<-eV P e
    if i.size=z.length then some (.clr i.size z (<-bG x))else none
   |_=>none
  |_,_=>none
 | .call {callee:= .builtin .copy,args,argTypes}=>do
  match args.toList,argTypes.toList with
  | [x,y],[t,_]=>match P.underlying t with
   |some (.slice e)=>
    let i<-P.info? e;let z<-eV P e
    if i.size=z.length then some (.copy i.size (<-bG x) (<-bG y))else none
   |_=>none
  |_,_=>none
 | .call {callee:= .value f,args,..}=>do some (.call (<-bG f) (<-v8 args.toList))
 |_=>none
def Od:I:= .sf true []
def tj(P:Program)(o:Oper):Option I:=
 match xZ P o with
 |some i=>some i
 |none=>match o.op with
  | .defer _=>none
  |_=>some Od
theorem SD(P:Program){e:List CV}{m:Mem}{K:CV->Mem->Prop}:step P Od e m K=False:=rfl
theorem Gu{P:Program}{o:Oper}{i:I}(h:tj P o=some i):xZ P o=some i\/i=Od:=by
 unfold tj at h;split at h
 .rename_i j hj;exact .inl (by rw[hj];exact h)
 .split at h
  .cases h
  .cases h;exact .inr rfl
def Oe(ops:Array Oper):Option (Nat×Bool)->Option (Option (Nat×Bool))
 |none=>some none
 |some (j,b)=>do some (some (<-(<-ops[j]?).dst,b))
def x4(P:Program)(ops:Array Oper)(o:Oper):Option LO:=do some ⟨o.dst,<-tj P o,<-Oe ops o.guard⟩
def og(P:Program)(ops:Array Oper):List Oper->Option (List LO)
 | []=>some []
 |o::r=>do some ((<-x4 P ops o)::(<-og P ops r))
def I.xs:I->List X
 | .WB x=>[x]
 | .pick c a b=>[c,a,b]
 | .alloc _=>[]
 | .box x=>[x]
 | .build _ ps=>ps.map λp=>p.2.2
 | .Zi _ _ _ ps=>ps.map λp=>p.2
 | .load _ _ a=>[a]
 | .store _ a x=>[a,x]
 | .K8 _ a=>[a]
 | .ZO _ _ _ a=>[a]
 | .ZP _ a i=>[a,i]
 | .N3 _ _ a i=>[a,i]
 | .K9 a i=>[a,i]
 | .N4 _ x y=>[x,y]
 | .Sz _ _ x y=>[x,y]
 | .beq _ x y=>[x,y]
 | .un _ x=>[x]
 | .conv _ x=>[x]
 | .ZQ x=>[x]
 | .s2b x=>[x]
 | .b2s x=>[x]
 | .WC _ x lo hi mx=>x::(lo.toList++hi.toList++mx.toList)
 | .La x lo hi=>x::(lo.toList++hi.toList)
 | .fn _ fc=>fc
 | .len _ x=>[x]
 | .WD _ _ d s=>[d,s]
 | .call f args=>f::args
 | .ext x _=>[x]
 | .N5 x=>[x]
 | .N6 _ x=>[x]
 | .DQ=>[]
 | .xx _ _ _ n c=>[n,c]
 | .SA _ _ m k _=>[m,k]
 | .SB _ m k v=>[m,k,v]
 | .sf _ xs=>xs
 | .aet m k=>[m,k]
 | .copy _ d s=>[d,s]
 | .clr _ _ x=>[x]
 | .N7 _ _ _ x i=>[x,i]
 | .idb x=>[x]
def nh:List X->List Nat
 | []=>[]
 | .t n::r=>n::nh r
 | .c _::r=>nh r
def LO.looks(lo:LO):List Nat:=
 match lo.guard with
 |none=>nh lo.AQ.xs
 |some (s,_)=>s::nh lo.AQ.xs
def AR:I->Bool
 | .WB _| .pick .. | .build .. | .K8 .. | .ZO .. | .N7 .. | .N3 .. | .K9 .. | .N4 .. | .Sz .. | .beq .. | .un .. | .conv .. | .ZQ .. | .fn .. | .ext .. | .N5 _| .La .. =>true
 |_=>false
def uR(i:I):Bool:=AR i||match i with| .load .. | .ZP .. | .len .. | .WC .. =>true|_=>false
def B9(dI:List Nat)(l:List Nat):Nat:=l.foldr (λj m=>Nat.lor m (Nat.lor (Nat.shiftLeft 1 j) ((dp dI j).getD 0))) 0
def Gv(iZ:List (List Nat))(dI:List Nat):List Nat:=iZ.map (B9 dI)
def Ca(iZ:List (List Nat)):Nat->List Nat->List Nat
 |0,dI=>dI
 |k+1,dI=>let a:=Gv iZ dI;match a==dI with|true=>dI|false=>Ca iZ k a
def bK(n:Nat)(iZ:List (List Nat)):List Nat:=Ca iZ n []
def oV(ms:List Nat)(i j:Nat):Bool:=Nat.testBit ((dp ms i).getD 0) j
def dB(cy:List LO)(t j:Nat):Bool:=match dp cy j with|some lo=>(match lo.dst with|some d=>Nat.beq d t|none=>false)|none=>false
def qv(cy:List LO)(j:Nat):List Nat:=match dp cy j with|some lo=>lo.looks|none=>[]
def Lc(cy:List LO)(j:Nat):Option Nat:=match dp cy j with|some lo=>lo.dst|none=>none
def Gw(cy:List LO)(j:Nat):Bool:=match dp cy j with|some lo=>AR lo.AQ|none=>false
def ni(cy:List LO)(j:Nat):Bool:=match dp cy j with|some lo=>uR lo.AQ|none=>false
def ng.hd:ng->List Nat
 | .nil=>[]
 | .cons i _ _=>[i]
 | .z7 a b=>a.hd++b.hd
def Jg(cy:List LO)(ms:List Nat)(n:Nat)(bf:List Nat)(i:Nat):Bool:=
 Nat.blt i n&& !(bf.contains i)&&
  ((qv cy i).all λt=>bf.all λj=>!(dB cy t j)||oV ms i j)&&
  (match Lc cy i with|none=>true|some t=>bf.all λj=>!(dB cy t j)&&(!((qv cy j).contains t)||oV ms i j))
def WE(ms:List Nat)(n:Nat)(bf hd:List Nat):Bool:=(List.range n).all λi=>bf.contains i||(hd.contains i||hd.any λf=>oV ms i f)
def eK(cy:List LO)(ms:List Nat)(n:Nat):Bool->List Nat->ng->Bool
 |c,bf,.nil=>c&&(List.range n).all λi=>bf.contains i
 |c,bf,.cons i none r=>c&&(Jg cy ms n bf i&&(ni cy i&&eK cy ms n true (i::bf) r))
 |c,bf,.cons i (some l) r=>(!c||WE ms n bf [i])&&(Jg cy ms n bf i&&((bf.all λj=>!(ni cy j)||(oV ms i j||(Gw cy j||l.contains j)))&&eK cy ms n true (i::bf) r))
 |c,bf,.z7 x y=>(!c||WE ms n bf (x.hd++y.hd))&&(eK cy ms n false bf x&&eK cy ms n false bf y)
def AS(iZ:List (List Nat))(n:Nat):List Nat->List Nat->Bool
 |bf,[]=>(List.range n).all λi=>bf.contains i
 |bf,i::r=>Nat.blt i n&&((dp iZ i).getD []).all (λj=>bf.contains j)&&AS iZ n (i::bf) r
def ZT(iZ:List (List Nat))(n:Nat):Nat->List Nat->List Nat
 |0,_=>[]
 |k+1,bf=>match (List.range n).find? λi=>!(bf.contains i)&&((dp iZ i).getD []).all (λj=>bf.contains j)with
  |some i=>i::ZT iZ n k (i::bf)
  |none=>[]
def tk(cy:List LO)(iZ:List (List Nat))(sched:ng):Bool:=
 AS iZ cy.length [] (ZT iZ cy.length cy.length [])&&eK cy (bK cy.length iZ) cy.length true [] sched
def Of(cy:List LO)(ms:List Nat)(DU:List Nat)(done:List Nat)(i:Nat):Bool:=
 !(done.contains i)&&ni cy i&&DU.all λf=>done.contains f|| !(oV ms i f)
def Vm:List Nat->ng->ng
 | [],r=>r
 |i::l,r=>.cons i none (Vm l r)
def ZU:List ng->ng
 | []=>.nil
 | [x]=>x
 |x::r=>.z7 x (ZU r)
def Jh(cy:List LO)(ms:List Nat)(all DU:List Nat):Nat->List Nat->ng
 |0,_=>.nil
 |k+1,done=>
  let now:=all.filter (Of cy ms DU done);let Vn:=now.reverse++done;let left:=DU.filter λf=>!(done.contains f)
  Vm now (ZU ((left.filter λf=>left.all λg=>Nat.beq g f|| !(oV ms f g)).map λf=>
   .cons f (some (Vn.filter λj=>ni cy j&& !(oV ms f j||Gw cy j))) (Jh cy ms all DU k (f::Vn))))
def Ji(cy:List LO)(iZ:List (List Nat)):ng:=
 let ms:=bK cy.length iZ;let all:=List.range cy.length;let DU:=all.filter λi=>!(ni cy i)
 Jh cy ms all DU (DU.length+1) []
def my(md:Region.Mode)(ops:Array Oper):List (List Nat):=ops.toList.map λo=>(o.after.toList.filter (Region.binds md)).map (·.on)
def xz(P:Program)(ops:Array Oper):List Region.Mode:=if(P.follows .mixedOrders|| !(Region.departs ops))=true then [.any]else [.text,.gc]
def x5(P:Program)(cy:List LO)(ops:Array Oper):Option (List ng):=
 let ms:=xz P ops;let s:=Ji cy (my .any ops)
 if(ms.all λmd=>tk cy (my md ops) s)=true then some [s]
 else
  let ss:=ms.map λmd=>Ji cy (my md ops)
  if(ms.all λmd=>ss.any λs=>tk cy (my md ops) s)=true then some ss else none
def eJ(P:Program):Code->Option LC
 | .skip=>some .skip
 | .region _ ops true=>do
  let cy<-og P ops ops.toList
  some (.jF cy (<-x5 P cy ops))
 | .region _ ops false=>do some (.DD (<-og P ops ops.toList))
 | .seq a b=>do some (.seq (<-eJ P a) (<-eJ P b))
 | .cond x a b=>do some (.cond (<-bG x) (<-eJ P a) (<-eJ P b))
 | .block id b=>do some (.block id (<-eJ P b))
 | .loop b=>do some (.loop (<-eJ P b))
 | .exit id=>some (.exit id)
 | .ret=>some .ret
 | .rangeFunc f ps a c=>do
  match ps.toList with
  | [p]=>
   let la<-eJ P a;let lc<-eJ P c
   if(la.te&&lc.te)=true then some (.Ah (<-bG f) p la lc)else none
  |_=>none
 |_=>none
def oW(P:Program):List ResultVar->Option (List Rv)
 | []=>some []
 | .tmp t::r=>do some (.tmp t::(<-oW P r))
 | .cell a t::r=>do some (.cell (<-fl P t) (<-fE P t) a::(<-oW P r))
def bA(P:Program)(fn:Func):Option LF:=do
 some ⟨fn.ntmps,<-oW P fn.results.toList,<-eJ P (<-fn.body)⟩
inductive Ex where
 |normal
 |exit (id:Nat)
 |ret
def put(d:Option Nat)(v:CV)(e:List CV)(K:List CV->Prop):Prop:=
 match d with
 |none=>K e
 |some d=>fV v λv=>kg (aZ e d v) K
def Jj(P:Program)(o:LO)(ih:(List CV->Mem->Prop)->List CV->Mem->Prop)(K:List CV->Mem->Prop)(e:List CV)(m:Mem):Prop:=
  match o.guard with
  |none=>step P o.AQ e m λv m'=>kg m' λm'=>put o.dst v e λe'=>ih K e' m'
  |some (s,lC)=>
   match lV e s with
   | .undef=>put o.dst .undef e λe'=>ih K e' m
   | .rv (.one (.ai (.val (.bool t))))=>bB t
    (kg (aZ e s (ar true)) λe=>match lC with
     |true=>step P o.AQ e m λv m'=>kg m' λm'=>put o.dst v e λe'=>ih K e' m'
     |false=>put o.dst .undef e λe'=>ih K e' m)
    (kg (aZ e s (ar false)) λe=>match lC with
     |false=>step P o.AQ e m λv m'=>kg m' λm'=>put o.dst v e λe'=>ih K e' m'
     |true=>put o.dst .undef e λe'=>ih K e' m)
   |_=>False
def Ld(P:Program)(l:List LO):(List CV->Mem->Prop)->List CV->Mem->Prop:=
 @List.rec LO (λ_=>(List CV->Mem->Prop)->List CV->Mem->Prop) (λK e m=>K e m) (λo _ ih K e m=>Jj P o ih K e m) l
theorem AT{P:Program}{o:LO}{r:List LO}{K:List CV->Mem->Prop}{e:List CV}{m:Mem}:Ld P (o::r) K e m=Jj P o (Ld P r) K e m:=rfl
def pE(P:Program)(lo:LO)(e:List CV)(m:Mem)(K:List CV->CV->Mem->Prop):Prop:=
 match lo.guard with
 |none=>step P lo.AQ e m λv m'=>kg m' λm'=>K e v m'
 |some (s,lC)=>match lV e s with
  | .undef=>K e .undef m
  | .rv (.one (.ai (.val (.bool t))))=>bB t
   (kg (aZ e s (ar true)) λe=>match lC with
    |true=>step P lo.AQ e m λv m'=>kg m' λm'=>K e v m'
    |false=>K e .undef m)
   (kg (aZ e s (ar false)) λe=>match lC with
    |false=>step P lo.AQ e m λv m'=>kg m' λm'=>K e v m'
    |true=>K e .undef m)
  |_=>False
def x6(j:Nat):List (Nat×LO×List CV×CV)->Option (LO×List CV×CV)
 | []=>none
 |(i,x)::r=>match Nat.beq i j with|true=>some x|false=>x6 j r
def ZV(P:Program)(m:Mem)(eW:List (Nat×LO×List CV×CV))(l:List Nat):Prop:=
 @List.rec Nat (λ_=>Prop) True (λj _ ih=>(ok (x6 j eW) λx=>pE P x.1 x.2.1 m λ_ v _=>v=x.2.2)/\ih) l
theorem Og{P:Program}{m:Mem}{eW:List (Nat×LO×List CV×CV)}{j:Nat}{r:List Nat}:ZV P m eW (j::r)=((ok (x6 j eW) λx=>pE P x.1 x.2.1 m λ_ v _=>v=x.2.2)/\ZV P m eW r):=rfl
def Jk(P:Program)(cy:List LO)(i:Nat)(N8:Option (List Nat))(ih:List (Nat×LO×List CV×CV)->(List CV->Mem->Prop)->List CV->Mem->Prop)(eW:List (Nat×LO×List CV×CV))(K:List CV->Mem->Prop)(e:List CV)(m:Mem):Prop:=
 ok (dp cy i) λlo=>pE P lo e m λe1 v m'=>put lo.dst v e1 λe'=>
  match N8 with
  |none=>ih ((i,lo,e,v)::eW) K e' m'
  |some l=>ZV P m' eW l/\ih eW K e' m'
def wY(P:Program)(cy:List LO)(sch:ng):List (Nat×LO×List CV×CV)->(List CV->Mem->Prop)->List CV->Mem->Prop:=
 @ng.rec (λ_=>List (Nat×LO×List CV×CV)->(List CV->Mem->Prop)->List CV->Mem->Prop) (λ_ K e m=>K e m)
  (λi N8 _ ih eW K e m=>Jk P cy i N8 ih eW K e m) (λ_ _ WG WH eW K e m=>WG eW K e m/\WH eW K e m) sch
theorem AU{P:Program}{cy:List LO}{i:Nat}{N8:Option (List Nat)}{r:ng}{eW:List (Nat×LO×List CV×CV)}{K:List CV->Mem->Prop}{e:List CV}{m:Mem}:
  wY P cy (.cons i N8 r) eW K e m=Jk P cy i N8 (wY P cy r) eW K e m:=rfl
theorem Oh{P:Program}{cy:List LO}{a b:ng}{eW:List (Nat×LO×List CV×CV)}{K:List CV->Mem->Prop}{e:List CV}{m:Mem}:
  wY P cy (.z7 a b) eW K e m=(wY P cy a eW K e m/\wY P cy b eW K e m):=rfl
def WK(x:X)(v:CV)(e:List CV):List CV:=
 match x with
 | .t n=>aZ e n v
 | .c _=>e
def jD:Nat->List (Nat×CV)->List CV
 |n,as=>go n as (iu n .aL)
 where go:Nat->List (Nat×CV)->List CV->List CV
 |_,[],e=>e
 |n,(s,v)::r,e=>aZ (go n r e) s v
inductive oh:Mem->Mem->Prop
 |nil (m:Mem):oh m []
 |cons {b b':Bk} {m m':Mem} (h:b'=b\/b'= .aE) (hm:oh m m'):oh (b::m) (b'::m')
def CC.dR(n:Nat):CC->Prop
 | .ptr id _=>id<n
 | .oU id _ _ _=>id<n
 | .row id _ _ _=>id<n
 | .map id=>id<n
 | .fn _ fc=>∀id,id∈fc->id<n
 |_=>True
def RV.dR(n:Nat):RV->Prop
 | .one c=>c.dR n
 | .agg cs=>∀c,c∈cs->c.dR n
def CV.dR(n:Nat):CV->Prop
 | .rv r=>r.dR n
 | .bI rs=>∀r,r∈rs->r.dR n
 |_=>True
def Bk.dR(n:Nat):Bk->Prop
 | .aE=>True
 | .var cs=>∀c,c∈cs->c.dR n
 | .row _ elems=>∀cs,cs∈elems->∀c,c∈cs->c.dR n
 | .mp es=>∀e,e∈es->e.val.dR n
structure Oi(n0:Nat)(s s':St):Prop where
 n0:n0<=s'.mem.length
 len:s'.ba.length=s.ba.length
 ba:∀(i:Nat)v,s'.ba[i]? =some v->v= .aL\/(s.ba[i]? =some v/\(s'.mem.length=s.mem.length\/v.dR s'.mem.length))
 mem:oh s.mem s'.mem
 lN:s'.mem.length=s.mem.length\/∀b,b∈s'.mem->b.dR s'.mem.length
structure WL(n0:Nat)(ρ:b9)(m:Mem)(U':b9)(m':Mem):Prop where
 aW:∀id,id<n0->U'.aW (.aA id)=ρ.aW (.aA id)
 S:∀b,ρ.S b->U'.S b
 S':∀b,U'.S b->ρ.S b\/∃k,Live ρ m k/\(ρ.aW k).b=b
 aF:∀k,Live U' m' k->∃k0,Live ρ m k0/\(ρ.aW k0).b=(U'.aW k).b
structure View(n0:Nat)(s s':St):Prop where
 hn:n0<=s'.mem.length
 len:s'.ba.length=s.ba.length
 go:∀(ρ:b9)(w:World),aN ρ s.mem w->∃U',aN U' s'.mem w/\WL n0 ρ s.mem U' s'.mem/\∀(i:Nat)c',s'.ba[i]? =some c'->∃c,s.ba[i]? =some c/\∀v,cG ρ w c v->cG U' w c' v
def oX(f:(Ex->St->Prop)->St->Prop)(K:Ex->St->Prop)(ex:Ex)(s:St):Prop:=
 match ex with
 | .normal=>f K s
 | .exit id=>K (.exit id) s
 | .ret=>K .ret s
def Gx(id:Nat)(K:Ex->St->Prop)(ex:Ex)(s:St):Prop:=
 match ex with
 | .normal=>K .normal s
 | .exit lO=>bB (Nat.beq lO id) (K .normal s) (K (.exit lO) s)
 | .ret=>K .ret s
def Jl(n0:Nat){α:Type}(J:α->Prop)(S:α->St)(μ:α->Nat)(n:Nat)(K:Ex->St->Prop)(ex:Ex)(s:St):Prop:=
 match ex with
 | .normal=>∃a,J a/\μ a<n/\View n0 s (S a)
 | .exit id=>K (.exit id) s
 | .ret=>K .ret s
def Le(K:Ex->St->Prop)(e:List CV)(m:Mem):Prop:=K .normal ⟨e,m⟩
def rQ:Mem->List Nat->Mem
 |m,[]=>m
 |m,id::r=>rQ (aZ m id .aE) r
def Cb(m:Mem):List Nat->List Value->Prop
 | [],[]=>True
 |id::r,v::vs=>(dp m id=some (.var [.ai (.val v)])/\eE v=true)/\Cb m r vs
 |_,_=>False
def tl(as:List (Nat×Nat)):List Value:=as.map λa=>Value.pointer (some ⟨a.1,a.2,none⟩)
def Vo(P:Program)(l:Nat)(args:Array Value)(W:World)(R:Ending->World->Prop):Prop:=
 ∃fn tmps assign body,(Instr.yield l args).run P W= .ok (.round l fn tmps assign body) W/\RoundIn Fence.wide 0 P l fn tmps assign body W R
def ZW(P:Program)(gf:Nat)(cs:List Value)(xs:List ByteArray):Prop:=
 (∃fn,P.funcs[gf]? =some fn/\fn.body.isSome=true/\(fn.name== "runtime.NumGoroutine")=false)/\
 ∀(l:Nat)(as:List (Nat×Nat))(W:World)(J:Nat->World->Prop)(Jx:World->Prop),as.length=cs.length->(as.map (·.1)).Nodup->
  (∀(i:Nat)a v,as[i]? =some a->cs[i]? =some v->W.cell? ⟨a.1,a.2,none⟩=some v/\W.frozen? ⟨a.1,a.2,none⟩=false)->
  (∀k W W',J k W->W.heap.size<=W'.heap.size->(∀b,b<W.heap.size->(∀a,a∈as->b≠a.1)->W'.heap[b]? =W.heap[b]?)->W'.os=W.os->W'.tape=W.tape->W'.output=W.output->J k W')->
  (∀W W',Jx W->W.heap.size<=W'.heap.size->(∀b,b<W.heap.size->(∀a,a∈as->b≠a.1)->W'.heap[b]? =W.heap[b]?)->W'.os=W.os->W'.tape=W.tape->W'.output=W.output->Jx W')->
  (∀k y W,xs[k]? =some y->J k W->Vo P l #[.string y] W λe W'=>
   (e= .returned (.bool true)/\J (k+1) W'/\W.heap.size<=W'.heap.size/\∀a,a∈as->W'.heap[a.1]? =W.heap[a.1]?)\/(e= .returned (.bool false)/\Jx W'))->
  J 0 W->
  CallsIn Fence.wide 0 P gf (#[.func (.yield l) #[] #[]]++(tl as).toArray) W λe W'=>(∃v,e= .returned v)/\(J xs.length W'\/Jx W')
def aev(n0:Nat){α:Type}(J:Nat->α->Prop)(S:α->St)(k:Nat)(ba:List CV)(K:Ex->St->Prop)(ex:Ex)(s:St):Prop:=
 match ex with
 | .normal=>∃a,J (k+1) a/\View n0 ⟨ba,s.mem⟩ (S a)
 | .exit id=>K (.exit id) ⟨ba,s.mem⟩
 | .ret=>K .ret ⟨ba,s.mem⟩
def SE(P:Program)(cy:List LO)(K:Ex->St->Prop)(s:St):List ng->Prop
 | []=>True
 | [x]=>wY P cy x [] (Le K) s.ba s.mem
 |x::y::r=>wY P cy x [] (Le K) s.ba s.mem/\SE P cy K s (y::r)
def aw(P:Program)(n0:Nat):LC->(Ex->St->Prop)->St->Prop
 | .skip,K,s=>K .normal s
 | .DD ops,K,s=>Ld P ops (Le K) s.ba s.mem
 | .jF cy sh,K,s=>SE P cy K s sh
 | .seq a b,K,s=>aw P n0 a (oX (aw P n0 b) K) s
 | .cond x a b,K,s=>match x.ev s.ba with
  | .rv (.one (.ai (.val (.bool t))))=>bB t
   (kg (WK x (ar true) s.ba) λe=>aw P n0 a K ⟨e,s.mem⟩)
   (kg (WK x (ar false) s.ba) λe=>aw P n0 b K ⟨e,s.mem⟩)
  |_=>False
 | .block id b,K,s=>aw P n0 b (Gx id K) s
 | .loop b,K,s=>∃(α:Type)(J:α->Prop)(S:α->St)(μ:α->Nat),(∃a,J a/\View n0 s (S a))/\∀a,J a->aw P n0 b (Jl n0 J S μ (μ a) K) (S a)
 | .exit id,K,s=>K (.exit id) s
 | .ret,K,s=>K .ret s
 | .rO a,K,s=>∃s',View n0 s s'/\aw P n0 a K s'
 | .Ah x p la lb,K,s=>∃(gf:Nat)(lN:List Nat)(cs:List Value)(xs:List ByteArray)(α:Type)(J:Nat->α->Prop)(S:α->St),
   x.ev s.ba= .rv (.one (.fn gf lN))/\Cb s.mem lN cs/\(lN.Nodup/\lN≠[])/\ZW P gf cs xs/\(∃a,J 0 a/\View n0 ⟨s.ba,rQ s.mem lN⟩ (S a))/\
   (∀k y a,xs[k]? =some y->J k a->tf (S a).mem λn1=>aw P n1 la (λex s2=>match ex with
    | .normal=>tf s2.mem λn2=>aw P n2 lb (aev n0 J S k (S a).ba K) s2
    |_=>False) ⟨aZ (S a).ba p (ei y),(S a).mem⟩)/\
   ∀a,J xs.length a->K .normal (S a)
def DV(P:Program)(s:St):List Rv->(List RV->Prop)->Prop
 | [],K=>K []
 | .tmp t::r,K=>ok (Gr (lV s.ba t)) λv=>DV P s r λvs=>K (v::vs)
 | .cell agg n t::r,K=>xV s.ba s.mem agg n (lV s.ba t) λv=>ok (Gr v) λv=>DV P s r λvs=>K (v::vs)
def WM:List RV->CV
 | [r]=>.rv r
 |rs=>.bI rs
def oi(P:Program)(mr:List Rv)(K:CV->Mem->Prop)(ex:Ex)(s:St):Prop:=
 match ex with
 | .exit _=>False
 |_=>DV P s mr λvs=>K (WM vs) s.mem
def body(P:Program)(lf:LF)(args:List CV)(m:Mem)(K:CV->Mem->Prop):Prop:=
 kg (gC args (iu (lf.n-args.length) .undef)) λe=>tf m λn0=>aw P n0 lf.code (oi P lf.mr K) ⟨e,m⟩
abbrev qm(d s:Nat):LO:=⟨some d,.WB (.t s),none⟩
abbrev qu(d:Nat)(i:I):LO:=⟨some d,i,none⟩
abbrev qw(i:I):LO:=⟨none,i,none⟩
abbrev qg(d:Nat)(i:I)(s:Nat)(b:Bool):LO:=⟨some d,i,some (s,b)⟩
abbrev qf(d k s:Nat):LO:=⟨some d,.K8 k (.t s),none⟩
abbrev ql(d s:Nat):LO:=⟨some d,.load false 1 (.t s),none⟩
abbrev qL(d n s:Nat):LO:=⟨some d,.load true n (.t s),none⟩
abbrev qi(n:Int):X:= .c (.rv (.one (.ai (.val (.int .i64 n)))))
abbrev qb(b:Bool):X:= .c (.rv (.one (.ai (.val (.bool b)))))
abbrev qe:X:= .c (.rv (.one .bv))
abbrev qd(n:Int):CC:= .ai (.val (.int .i64 n))
abbrev qc(f:Nat)(a:List X):I:= .call (.c (.rv (.one (.fn f [])))) a
instance(n:Nat):OfNat X n:=⟨.t n⟩
abbrev eL:Nat->Nat->ng->ng
  |0,_,t=>t
  |n+1,i,t=>.cons i none (eL n (i+1) t)
theorem aX{α:Type}:∀(l:List α)(i:Nat),dp l i=l[i]?
 | [],_=>by simp[dp]
 |_::_,0=>rfl
 |_::r,k+1=>by simpa[dp]using aX r k
theorem br{α:Type}:∀(l:List α)(i:Nat)(x:α),aZ l i x=l.set i x
 | [],_,_=>rfl
 |_::_,0,_=>rfl
 |a::r,k+1,x=>by simp[aZ,br r k x]
theorem cw{α:Type}:∀(a b:List α),gC a b=a++b
 | [],_=>rfl
 |x::r,b=>by simp[gC,cw r b]
theorem gn{α:Type}:∀(n:Nat)(x:α),iu n x=List.replicate n x
 |0,_=>rfl
 |n+1,x=>by simp[iu,gn n x,List.replicate_succ]
theorem fO{α:Type}{β:Sort _}:∀(l:List α)(k:List α->β),kg l k=k l
 | [],_=>rfl
 |x::r,k=>fO r λr'=>k (x::r')
theorem ZX{β:Sort _}(v:CV)(k:CV->β):fV v k=k v:=by
 cases v with
 |rv r=>
  cases r with
  |one c=>rfl
  |agg cs=>exact fO cs _
 |_=>rfl
theorem nj:∀(e:List CV)(i:Nat),lV e i=(e[i]?).getD .aL
 | [],_=>by simp[lV]
 |_::_,0=>rfl
 |_::r,k+1=>by simpa[lV]using nj r k
theorem be{α:Type}{o:Option α}{K:α->Prop}:ok o K↔∃x,o=some x/\K x:=by
 cases o<;>simp[ok]
theorem cU{t:Bool}{A B:Prop}:bB t A B↔(t=true/\A)\/(t=false/\B):=by
 cases t<;>simp[bB]
theorem DW{β:Sort _}(m0:Mem):∀(m:Mem)(c n:Nat)(k:Nat->β),m0.length=c+m.length->xU m0 m (List.range' c n) k=k m0.length
 | [],c,0,k,_=>by simp[xU]
 | [],c,n+1,k,h=>by simp[xU,aeJ,h]
 |_::r,c,0,k,h=>by simp[xU]
 |_::r,c,n+1,k,h=>by
  rw[aeJ,xU];exact DW m0 r (c+1) n k (by simp at h;omega)
theorem kZ{β:Sort _}(m:Mem)(k:Nat->β):tf m k=k m.length:=by have:=DW m m 0 64 k aG;exact this
theorem mz:∀{cs:List CC}{j n:Nat}{l:List CC},kh cs j n=some l->l.length=n/\∀i,i<n->cs[j+i]? =l[i]?
 |cs,0,0,l,h=>by cases cs<;>simp[kh]at h<;>subst h<;>simp
 | [],0,n+1,l,h=>by simp[kh]at h
 | [],j+1,n,l,h=>by cases n<;>simp[kh]at h
 |c::cs,0,n+1,l,h=>by
  simp only[kh]at h;cases hr:kh cs 0 n with
  |none=>simp[hr]at h
  |some l'=>
   simp[hr]at h;subst h;obtain⟨h1,h2⟩:=mz hr;refine⟨by simp[h1],λi hi=>?_⟩
   cases i with
   |zero=>simp
   |succ i=>have:=h2 i (by omega);simpa using this
 |c::cs,j+1,n,l,h=>by
  have h':kh cs j n=some l:=by cases n<;>simpa[kh]using h
  obtain⟨h1,h2⟩:=mz h';refine⟨h1,λi hi=>?_⟩
  have:=h2 i hi;rw[show j+1+i=(j+i)+1 by omega]
  simpa using this
theorem ld:∀{cs:List CC}{j:Nat}{xs l:List CC},iS cs j xs=some l->
  l.length=cs.length/\j+xs.length<=cs.length/\∀i,l[i]? =if j<=i/\i<j+xs.length then xs[i-j]? else cs[i]?
 |cs,0,[],l,h=>by
  cases cs<;>simp[iS]at h<;>subst h
  .simp
  .refine⟨rfl,aG,λi=>?_⟩
   rw[if_neg aG]
 | [],0,x::xs,l,h=>by simp[iS]at h
 | [],j+1,xs,l,h=>by cases xs<;>simp[iS]at h
 |c::cs,0,x::xs,l,h=>by
  simp only[iS]at h;cases hr:iS cs 0 xs with
  |none=>simp[hr]at h
  |some l'=>
   simp[hr]at h;subst h;obtain⟨h1,h2,h3⟩:=ld hr;refine⟨by simp[h1],by simp at h2|-;omega,λi=>?_⟩
   cases i with
   |zero=>simp
   |succ i=>
    have:=h3 i;simp only[aad,true_and,acA,adW,aaY,adF]at this|-;rw[this];simp
 |c::cs,j+1,xs,l,h=>by
  have h':(iS cs j xs).map (c:: ·)=some l:=by
   rw[<-h];cases hr:iS cs j xs<;>cases xs<;>simp[iS,hr]
  cases hr:iS cs j xs with
  |none=>simp[hr]at h'
  |some l'=>
   simp[hr]at h';subst h';obtain⟨h1,h2,h3⟩:=ld hr;refine⟨by simp[h1],by simp;omega,λi=>?_⟩
   cases i with
   |zero=>rw[if_neg om];simp
   |succ i=>
    have:=h3 i;simp only[adF,this];by_cases hc:j<=i/\i<j+xs.length
    .rw[if_pos hc,if_pos om,show i+1-(j+1)=i-j by omega]
    .rw[if_neg hc,if_neg om]
theorem x7:∀{ds:List Dt}{n:Nat}{l:List CC},xS ds n=some l->l.length=n/\∀i,i<n->∃d,ds[i]? =some d/\l[i]? =some (.ai d)
 |ds,0,l,h=>by cases ds<;>simp[xS]at h<;>subst h<;>simp
 | [],n+1,l,h=>by simp[xS]at h
 |d::ds,n+1,l,h=>by
  simp only[xS]at h;cases hr:xS ds n with
  |none=>simp[hr]at h
  |some l'=>
   simp[hr]at h;subst h;obtain⟨h1,h2⟩:=x7 hr;refine⟨by simp[h1],λi hi=>?_⟩
   cases i with
   |zero=>exact⟨d,aG,aG⟩
   |succ i=>simpa using h2 i om
theorem x8:∀{l:List CC},kj l=true->∀c,c∈l->∀esz e,c≠.jj esz e
 | [],_,c,hc,_,_=>by simp at hc
 |x::r,h,c,hc,esz,e=>by
  cases x with
  |jj a b=>simp[kj]at h
  |_=>
   rcases abH.1 hc with rfl|hc
   .simp
   .exact x8 (l:=r) (by simpa[kj]using h) c hc esz e
def Bk.Oj:Bk->Prop
 | .row _ elems=>∀(i:Nat)cs(j:Nat)c,elems[i]? =some cs->cs[j]? =some c->∀esz e,c≠.jj esz e
 |_=>True
theorem bJ.Cc{ρ:b9}{w:World}{c:CC}{v:Value}(h:bJ ρ w .none c v)(esz:Nat)(e:List (List Dt)):c≠.jj esz e:=by rintro rfl;obtain⟨_,_,_,e,_⟩:=h;cases e
theorem bJ.x9{ρ:b9}{w:World}{c:CC}{v:Value}(h:bJ ρ w .none c v)(pos:Option (Nat×Nat×Nat)):bJ ρ w pos c v:=by
 cases c<;>first|exact h|(obtain⟨_,_,_,e,_⟩:=h;cases e)
theorem bJ.ZY{ρ:b9}{w:World}{pos:Option (Nat×Nat×Nat)}{c:CC}{v:Value}(hn:∀esz e,c≠.jj esz e)(h:bJ ρ w pos c v):bJ ρ w .none c v:=by
 cases c<;>first|exact h|exact absurd rfl (hn _ _)
def b9.push(ρ:b9)(l:Ag):b9:=
 {n:=ρ.n+1,aW:=λk=>if k.id=ρ.n then l else ρ.aW k,S:=ρ.S}
theorem b9.fP(ρ:b9)(l:Ag){k:lA}(h:k.id<ρ.n):(ρ.push l).aW k=ρ.aW k:=by simp only[b9.push];rw[if_neg om]
theorem b9.lg(ρ:b9)(l:Ag):(ρ.push l).aW (.aA ρ.n)=l:=by simp[b9.push,lA.id]
structure fu(w w':World):Prop where
 heap:∀b,b<w.heap.size->w'.heap[b]? =w.heap[b]?
 size:w.heap.size<=w'.heap.size
 os:w'.os=w.os
 tape:w'.tape=w.tape
 output:w'.output=w.output
theorem fu.alloc(w:World)(o:Obj):fu w (w.alloc o):=⟨λb h=>heap_alloc_old w o b h,aG,rfl,rfl,rfl⟩
theorem fu.drew(w:World):fu w w.drew:=⟨λ_ _=>rfl,aah _,rfl,rfl,rfl⟩
theorem fu.trans{a b c:World}(h:fu a b)(k:fu b c):fu a c:=
 ⟨λx hx=>(k.heap x (abV hx h.size)).trans (h.heap x hx),abK h.size k.size,k.os.trans h.os,k.tape.trans h.tape,k.output.trans h.output⟩
theorem ft.dg{ρ U':b9}{w w':World}{id:Nat}{bk:Bk}(g:j7 ρ w U' w')(hid:id<ρ.n)(hb:bk≠.aE->((∃esz elems,bk= .row esz elems)->0<(ρ.aW (.aA id)).cap)->w'.heap[(ρ.aW (.aA id)).b]? =w.heap[(ρ.aW (.aA id)).b]?)(h:ft ρ w id bk):ft U' w' id bk:=by
 have hl:U'.aW (.aA id)=ρ.aW (.aA id):=g.aW (.aA id) hid;cases bk with
 |aE=>trivial
 |var cs=>
  obtain⟨cur,hc,hd⟩:=h;refine⟨cur,by rw[hl];exact hc.cT (hb aG (by rintro⟨_,_,e⟩;cases e)),λj c hj=>?_⟩
  obtain⟨u,hu,cP⟩:=hd j c hj;exact⟨u,by rw[hl];exact hu,cP.dg g aG⟩
 |row esz elems=>
  obtain⟨h2,h3,h4,h5,cC⟩:=h;refine⟨by rw[hl];exact h2,by rw[hl];exact h3,by rw[hl];exact h4,h5,λdQ=>?_⟩
  rw[hl]at dQ;obtain⟨cur,hc,h1,h6⟩:=cC dQ;refine⟨cur,by rw[hl];exact hc.cT (hb aG λ_=>dQ),by rw[hl];exact h1,λi cs j c hi hj=>?_⟩
  obtain⟨u,hu,cP⟩:=h6 i cs j c hi hj;exact⟨u,by rw[hl];exact hu,cP.dg g (by rintro lO i' j' e;cases e;exact hid)⟩
 |mp es=>
  obtain⟨fH,clock,hc,h1,h2⟩:=h;refine⟨fH,clock,by rw[hl,hb aG (by rintro⟨_,_,e⟩;cases e)];exact hc,h1,λi e hi=>?_⟩
  obtain⟨e',wa,hk,hd⟩:=h2 i e hi;exact⟨e',wa,hk,hd.dg g⟩
theorem B7.dg{ρ U':b9}{w w':World}(g:j7 ρ w U' w'){l:Ag}{esz:Nat}{elems:List (List Dt)}(hb:w'.heap[l.b]? =w.heap[l.b]?)(h:B7 ρ w l esz elems):B7 U' w' l esz elems:=by
 obtain⟨cur,hc,h1,h2,h3⟩:=h;refine⟨cur,hc.cT hb,h1,h2,λi cs j d hi hj=>?_⟩
 obtain⟨u,hu,hd⟩:=h3 i cs j d hi hj;exact⟨u,hu,hd.mono g.S g.heap⟩
theorem aN.it{ρ:b9}{m:Mem}{w:World}(hM:aN ρ m w){id:Nat}{bk:Bk}(h:m[id]? =some bk):id<ρ.n:=by rw[hM.n];exact(Mp.1 h).1
theorem aN.Vp{ρ:b9}{m:Mem}{w w':World}{bk:Bk}{l:Ag}(hM:aN ρ m w)(hw:fu w w')(Ga:Live (ρ.push l) (m++ [bk]) (.aA ρ.n)->w.heap.size<=l.b/\l.b<w'.heap.size)(gV:ft (ρ.push l) w' m.length bk)(hf:bk.Oj):aN (ρ.push l) (m++ [bk]) w'/\Ext ρ m w (ρ.push l) (m++ [bk]) w':=by
 have hn:=hM.n;have g:j7 ρ w (ρ.push l) w':=⟨by simp[b9.push],λk hk=>ρ.fP l hk,λb hb=>hb,λb hb=>hw.heap b (hM.S b hb)⟩
 have get:∀{id:Nat}{b:Bk},(m++ [bk])[id]? =some b->(id<ρ.n/\m[id]? =some b)\/(id=ρ.n/\b=bk):=by
  intro id b hb;rcases aaD id m.length with h|h
  .exact .inl ⟨om,by rwa [aaM h]at hb⟩
  .rw[aaO h]at hb;have:id-m.length=0:=by
    rcases acO (id-m.length)with h0|h0
    .exact h0
    .rw[abk (by simp;omega)]at hb;cases hb
   rw[this]at hb;exact .inr ⟨om,by simpa using hb.symm⟩
 have mA:∀{id i j esz elems},ir (m++ [bk]) id i j esz elems->id<ρ.n/\ir m id i j esz elems:=by
  rintro id i j esz elems ⟨es,rows,cs,hb,hi,hj⟩;rcases get hb with⟨ay,hb⟩|⟨_,rfl⟩
  .exact⟨ay,es,rows,cs,hb,hi,hj⟩
  .exact absurd rfl (hf i cs j _ hi hj esz elems)
 have ff:∀k,Live (ρ.push l) (m++ [bk]) k->(k.id<ρ.n/\Live ρ m k)\/k= .aA ρ.n:=by
  intro k hk;cases k with
  |aA id=>
   obtain⟨b,hb,gj,bF⟩:=hk;rcases get hb with⟨ay,hb⟩|⟨rfl,_⟩
   .rw[ρ.fP l (k:= .aA id) ay]at bF;exact .inl ⟨ay,b,hb,gj,bF⟩
   .exact .inr rfl
  |sub id i j=>
   obtain⟨⟨esz,elems,ho⟩,bF⟩:=hk;obtain⟨ay,ho⟩:=mA ho;rw[ρ.fP l (k:= .sub id i j) ay]at bF;exact .inl ⟨ay,⟨esz,elems,ho⟩,bF⟩
 have Cd:(ρ.push l).aW (.aA ρ.n)=l:=ρ.lg l;refine⟨⟨by simp[b9.push,hn],λb hb=>abV (hM.S b hb) hw.size,?_,?_,?_,?_⟩,⟨by simp[b9.push],λid hid=>ρ.fP l hid,λb hb=>hb,λb hb=>.inl hb,?_,?_,hw.size,hw.os,hw.tape,hw.output⟩⟩
 .intro k hk;rcases ff k hk with⟨ay,hk⟩|rfl
  .rw[ρ.fP l ay];exact⟨abV (hM.aF k hk).1 hw.size,(hM.aF k hk).2⟩
  .rw[Cd];exact⟨(Ga hk).2,λhs=>by have:=hM.S _ hs;have:=(Ga hk).1;omega⟩
 .intro k k' hk jd he;rcases ff k hk with⟨ay,hk⟩|rfl<;>rcases ff k' jd with⟨qx,jd⟩|rfl
  .rw[ρ.fP l ay,ρ.fP l qx]at he;exact hM.inj k k' hk jd he
  .rw[ρ.fP l ay,Cd]at he;have:=(hM.aF k hk).1;have:=(Ga jd).1;omega
  .rw[ρ.fP l qx,Cd]at he;have:=(hM.aF k' jd).1;have:=(Ga hk).1;omega
  .rfl
 .intro id b hb;rcases get hb with⟨ay,hb⟩|⟨rfl,rfl⟩
  .exact(hM.bk id b hb).dg g ay λgj bF=>hw.heap _ (hM.aF (.aA id) ⟨b,hb,gj,bF⟩).1
  .rw[hn];exact gV
 .intro id i j esz elems ho bF;obtain⟨ay,ho⟩:=mA ho;rw[ρ.fP l (k:= .sub id i j) ay]at bF|-;exact(hM.jj id i j esz elems ho bF).dg g (hw.heap _ (hM.aF (.sub id i j) ⟨⟨esz,elems,ho⟩,bF⟩).1)
 .intro k hk;rcases ff k hk with⟨ay,hk⟩|rfl
  .exact .inr ⟨k,hk,(by rw[ρ.fP l ay])⟩
  .exact .inl (by rw[Cd];exact(Ga hk).1)
 .intro b hb _;exact hw.heap b hb
theorem aN.push{ρ:b9}{m:Mem}{w w':World}{bk:Bk}{l:Ag}(hM:aN ρ m w)(hw:fu w w')(h1:w.heap.size<=l.b)(h2:l.b<w'.heap.size)(gV:ft (ρ.push l) w' m.length bk)(hf:bk.Oj):aN (ρ.push l) (m++ [bk]) w'/\Ext ρ m w (ρ.push l) (m++ [bk]) w':=
 hM.Vp hw (λ_=>⟨h1,h2⟩) gV hf
structure nR(w w':World)(g:Nat):Prop where
 heap:∀b,b≠g->w'.heap[b]? =w.heap[b]?
 size:w'.heap.size=w.heap.size
 os:w'.os=w.os
 tape:w'.tape=w.tape
 output:w'.output=w.output
theorem aN.Zj{ρ:b9}{m:Mem}{w w':World}{id:Nat}{bk Jm:Bk}(hM:aN ρ m w)(hid:m[id]? =some bk)(dj:Live ρ m (.aA id))(hw:nR w w' (ρ.aW (.aA id)).b)(gV:j7 ρ w ρ w'->ft ρ w' id Jm)(ol:∀i j esz e,ir (m.set id Jm) id i j esz e->ir m id i j esz e):aN ρ (m.set id Jm) w'/\Ext ρ m w ρ (m.set id Jm) w':=by
 have ay:id<m.length:=(Mp.1 hid).1;have hS:=(hM.aF _ dj).2;have g:j7 ρ w ρ w':=⟨aah _,λ_ _=>rfl,λ_ h=>h,λb hb=>hw.heap b λe=>hS (e▸hb)⟩
 have get:∀{k:Nat}{b:Bk},(m.set id Jm)[k]? =some b->(k≠id/\m[k]? =some b)\/(k=id/\b=Jm):=by
  intro k b hb;by_cases hk:k=id
  .subst hk;rw[aal ay]at hb;exact .inr ⟨rfl,by simpa using hb.symm⟩
  .rw[aap (Ne.symm hk)]at hb;exact .inl ⟨hk,hb⟩
 have mA:∀{k i j esz e},ir (m.set id Jm) k i j esz e->ir m k i j esz e:=by
  intro k i j esz e ho;by_cases hk:k=id
  .subst hk;exact ol i j esz e ho
  .obtain⟨es,rows,cs,hb,hi,hj⟩:=ho;rw[aap (Ne.symm hk)]at hb;exact⟨es,rows,cs,hb,hi,hj⟩
 have ff:∀k,Live ρ (m.set id Jm) k->Live ρ m k:=by
  intro k hk;cases k with
  |aA k=>
   obtain⟨b,hb,hn,bF⟩:=hk;rcases get hb with⟨_,hb⟩|⟨rfl,_⟩
   .exact⟨b,hb,hn,bF⟩
   .exact dj
  |sub k i j=>
   obtain⟨⟨esz,e,ho⟩,bF⟩:=hk;exact⟨⟨esz,e,mA ho⟩,bF⟩
 refine⟨⟨by simp[hM.n],λb hb=>by rw[hw.size];exact hM.S b hb,λk hk=>by rw[hw.size];exact hM.aF k (ff k hk),λk k' hk jd=>hM.inj k k' (ff k hk) (ff k' jd),?_,?_⟩,
  ⟨aah _,λ_ _=>rfl,λ_ h=>h,λ_ h=>.inl h,λk hk=>.inr ⟨k,ff k hk,rfl⟩,λb _ hk=>hw.heap b λe=>hk _ dj e.symm,by rw[hw.size];exact aah _,hw.os,hw.tape,hw.output⟩⟩
 .intro k b hb;rcases get hb with⟨ZZ,hb⟩|⟨rfl,rfl⟩
  .refine(hM.bk k b hb).dg g (hM.it hb) λhn bF=>hw.heap _ λe=>?_
   have:=hM.inj (.aA k) (.aA id) ⟨b,hb,hn,bF⟩ dj e;injection this with this
   exact ZZ this
  .exact gV g
 .intro k i j esz e ho bF;have eH:=mA ho;refine(hM.jj k i j esz e eH bF).dg g (hw.heap _ λhe=>?_)
  have:=hM.inj (.sub k i j) (.aA id) ⟨⟨esz,e,eH⟩,bF⟩ dj he;cases this
theorem bJ.cut{ρ:b9}{w:World}{pos:Option (Nat×Nat×Nat)}{c:CC}{v:Value}{n:Nat}(h:bJ ρ w pos c v)(hi:c.dR n):bJ {ρ with n:=n} w pos c v:=by
 cases c<;>simp only[bJ,CC.dR]at h hi|-
 case ptr=>exact⟨hi,h.2⟩
 case oU=>exact⟨hi,h.2⟩
 case row=>exact⟨hi,h.2⟩
 case map=>exact⟨hi,h.2⟩
 case fn=>exact⟨hi,h.2⟩
 all_goals exact h
theorem eU.cut{ρ:b9}{w:World}{r:RV}{v:Value}{n:Nat}(h:eU ρ w r v)(hi:r.dR n):eU {ρ with n:=n} w r v:=by
 cases r with
 |one c=>exact bJ.cut h hi
 |agg cs=>
  obtain⟨vs,hv,hl,hc⟩:=h;exact⟨vs,hv,hl,λi c hj=>let⟨u,hu,hd⟩:=hc i c hj;⟨u,hu,hd.cut (hi c (Wm hj))⟩⟩
theorem cG.cut{ρ:b9}{w:World}{c:CV}{v:Value}{n:Nat}(h:cG ρ w c v)(hi:c.dR n):cG {ρ with n:=n} w c v:=by
 cases c with
 |aL=>trivial
 |undef=>exact h
 |rv r=>exact eU.cut h hi
 |bI rs=>
  obtain⟨vs,hv,hl,hc⟩:=h;exact⟨vs,hv,hl,λi c hj=>let⟨u,hu,hd⟩:=hc i c hj;⟨u,hu,hd.cut (hi c (Wm hj))⟩⟩
theorem ft.cut{ρ:b9}{w:World}{id:Nat}{bk:Bk}{n:Nat}(h:ft ρ w id bk)(hi:bk.dR n):ft {ρ with n:=n} w id bk:=by
 cases bk with
 |aE=>trivial
 |var cs=>
  obtain⟨cur,hc,hd⟩:=h;exact⟨cur,hc,λj c hj=>let⟨u,hu,cP⟩:=hd j c hj;⟨u,hu,cP.cut (hi c (Wm hj))⟩⟩
 |row esz elems=>
  obtain⟨h2,h3,h4,h5,cC⟩:=h;refine⟨h2,h3,h4,h5,λdQ=>?_⟩
  obtain⟨cur,hc,h1,h6⟩:=cC dQ;exact⟨cur,hc,h1,λi cs j c h7 h8=>let⟨u,hu,cP⟩:=h6 i cs j c h7 h8;⟨u,hu,cP.cut (hi cs (Wm h7) c (Wm h8))⟩⟩
 |mp es=>
  obtain⟨fH,clock,hc,h1,h2⟩:=h;exact⟨fH,clock,hc,h1,λi e h7=>let⟨e',wa,hk,hd⟩:=h2 i e h7;⟨e',wa,hk,hd.cut (hi e (Wm h7))⟩⟩
theorem oh.spec{m m':Mem}(h:oh m m'):m'.length<=m.length/\∀(i:Nat)b,m'[i]? =some b->∃b0,m[i]? =some b0/\(b=b0\/b= .aE):=by
 induction h with
 |nil m=>exact⟨aG,λi b hb=>by simp at hb⟩
 |cons h hm ih=>
  refine⟨by simp[ih.1],λi b hb=>?_⟩
  cases i with
  |zero=>simp at hb;subst hb;exact⟨_,aG,h⟩
  |succ i=>simpa using ih.2 i b (by simpa using hb)
theorem aN.Ok{ρ:b9}{m m':Mem}{w:World}(hM:aN ρ m w)(h:oh m m')(Ol:∀b,b∈m'->b.dR m'.length):
  aN {ρ with n:=m'.length} m' w/\(∀k,Live {ρ with n:=m'.length} m' k->Live ρ m k):=by
 have hs:=h.spec.2;have mA:∀{k i j esz e},ir m' k i j esz e->ir m k i j esz e:=by
  rintro k i j esz e ⟨es,rows,cs,hb,hi,hj⟩;obtain⟨b0,wb,rfl|h0⟩:=hs k _ hb
  .exact⟨es,rows,cs,wb,hi,hj⟩
  .cases h0
 have ff:∀k,Live {ρ with n:=m'.length} m' k->Live ρ m k:=by
  intro k hk;cases k with
  |aA k=>
   obtain⟨b,hb,hn,bF⟩:=hk;obtain⟨b0,wb,rfl|h0⟩:=hs k _ hb
   .exact⟨_,wb,hn,bF⟩
   .exact absurd h0 hn
  |sub k i j=>
   obtain⟨⟨esz,e,ho⟩,bF⟩:=hk;exact⟨⟨esz,e,mA ho⟩,bF⟩
 refine⟨⟨rfl,hM.S,λk hk=>hM.aF k (ff k hk),λk k' hk jd=>hM.inj k k' (ff k hk) (ff k' jd),λid b hb=>?_,λid i j esz e ho bF=>hM.jj id i j esz e (mA ho) bF⟩,ff⟩
 obtain⟨b0,wb,rfl|h0⟩:=hs id b hb
 .exact(hM.bk id _ wb).cut (Ol _ (Wm hb))
 .subst h0;trivial
structure bu(ρ:b9)(w:World)(ba:List CV)(tmps:Array Value):Prop where
 size:tmps.size=ba.length
 mB:∀(i:Nat)c,ba[i]? =some c->∃v,tmps[i]? =some v/\cG ρ w c v
section
variable {P:Program} {ρ:b9} {m:Mem} {w:World} {ba:List CV} {a:Act}
theorem bu.get(hE:bu ρ w ba a.tmps)(t:Nat):cG ρ w (lV ba t) (a.tmps.getD t Go.undef):=by
 rw[nj];cases h:ba[t]? with
 |none=>trivial
 |some c=>
  obtain⟨v,hv,hd⟩:=hE.mB t c h;simpa[adp,hv]using hd
theorem sq{v:Value}{c:CC}(h:xY v=some c):bJ ρ w .none c v:=by
 unfold xY at h;split at h
 .simp at h;subst h;exact⟨none,rfl⟩
 .split at h
  .rename_i hp;simp at h;subst h;exact dG.val _ hp
  .cases h
theorem aU(hE:bu ρ w ba a.tmps){x:Operand}{x':X}(h:bG x=some x'):cG ρ w (x'.ev ba) (a.eval x):=by
 cases x with
 |tmp t=>simp[bG]at h;subst h;exact hE.get t
 |const v=>
  simp only[bG,aba]at h;obtain⟨c,hc,rfl⟩:=h;exact sq hc
 |func f=>simp[bG]at h;subst h;exact⟨aG,rfl⟩
 |global g=>simp[bG]at h
theorem gv{t:TypeId}{n:Nat}(h:fE P t=some n):(sizeOf t).run P w= .ok n w:=by simp only[fE,aba]at h;obtain⟨i,hi,rfl⟩:=h;simp[sizeOf,typeInfo,hi]
theorem rh{t:TypeId}{b:Bool}(h:fl P t=some b):(isAgg t).run P w= .ok b w:=by
 simp only[fl,aba]at h;obtain⟨d,hd,rfl⟩:=h;simp only[isAgg,Sem.run_bind,run_underlying hd,Result.andThen_ok];cases d<;>rfl
theorem nS(b off j:Nat):(⟨b,off,none⟩:Addr).add j=⟨b,off+j,none⟩:=by
 unfold Addr.add;split<;>simp_all
def oY(ρ:b9)(w:World)(b off:Nat)(l:List CC):Prop:=
 ∀(i:Nat)c,l[i]? =some c->∃u,w.cell? ⟨b,off+i,none⟩=some u/\bJ ρ w .none c u
theorem oY.Z0:∀{l:List CC}{b off:Nat},oY ρ w b off l->
  ∃vs:List Value,vs.length=l.length/\(∀j v,vs[j]? =some v->w.cell? ((⟨b,off,none⟩:Addr).add j)=some v)/\(∀(i:Nat)c,l[i]? =some c->∃u,vs[i]? =some u/\bJ ρ w .none c u)
 | [],b,off,h=>⟨[],rfl,aG,aG⟩
 |c::l,b,off,h=>by
  obtain⟨u,hu,hd⟩:=h 0 c aG;obtain⟨vs,h1,h2,h3⟩:=oY.Z0 (l:=l) (b:=b) (off:=off+1) (λi c hi=>by
   have:=h (i+1) c (by simpa using hi)
   rwa [show off+(i+1)=off+1+i by omega]at this)
  refine⟨u::vs,by simp[h1],λj v hj=>?_,λi c' hi=>?_⟩
  .rw[nS];cases j with
   |zero=>simp at hj;subst hj;simpa using hu
   |succ j=>
    have:=h2 j v (by simpa using hj)
    rw[nS]at this;rwa [show off+(j+1)=off+1+j by omega]
  .cases i with
   |zero=>simp at hi;subst hi;exact⟨u,aG,hd⟩
   |succ i=>simpa using h3 i c' (by simpa using hi)
theorem sr{t:TypeId}{agg:Bool}{n:Nat}{b off:Nat}{l:List CC}{cv:CV}(ha:fl P t=some agg)(hs:fE P t=some n)(hl:l.length=n)(hc:oY ρ w b off l)(hm:N9 agg l=some cv):∃v,(loadVar t ⟨b,off,none⟩).run P w= .ok v w/\cG ρ w cv v:=by
 obtain⟨vs,h1,h2,h3⟩:=hc.Z0;unfold loadVar;simp only[Sem.run_bind,rh ha,Result.andThen_ok];cases agg with
 |true=>
  simp[N9]at hm;subst hm;have hr:=run_loadCells_list (P:=P) w ⟨b,off,none⟩ vs h2;refine⟨.agg vs.toArray,?_,vs,rfl,h1,h3⟩;simp only[if_true,Sem.run_bind,gv hs,Result.andThen_ok,<-hl,<-h1,hr,Sem.run_pure]
 |false=>
  match l,hm with
  | [c],hm=>
   simp[N9]at hm;subst hm;obtain⟨u,hu,hd⟩:=h3 0 c aG;have:=h2 0 u hu;rw[nS]at this;refine⟨u,?_,hd⟩;simp only[adz,if_false,run_load];rw[show(⟨b,off,none⟩:Addr)=⟨b,off+0,none⟩ by simp,this]
theorem wd(hM:aN ρ m w){t:TypeId}{agg:Bool}{n:Nat}(ha:fl P t=some agg)(hs:fE P t=some n){av:CV}{v:Value}{K:CV->Prop}(h:xV ba m agg n av K)(hd:cG ρ w av v):∃ad u cv,v= .pointer (some ad)/\(loadVar t ad).run P w= .ok u w/\K cv/\cG ρ w cv u:=by
 unfold xV at h;split at h
 .rename_i id j;obtain⟨ay,rfl⟩:=hd;obtain⟨bk,hb,h⟩:=be.1 h;rw[aX]at hb;cases bk<;>simp only at h
  rename_i cs;obtain⟨l,hr,h⟩:=be.1 h;obtain⟨cv,hm,hK⟩:=be.1 h;obtain⟨hl,oo⟩:=mz hr;obtain⟨cur,cC,cL⟩:=hM.bk id _ hb;have hc:oY ρ w (ρ.aW (.aA id)).b ((ρ.aW (.aA id)).aB+j) l:=by
   intro i c hi;have iF:i<n:=by rw[<-hl];exact(Mp.1 hi).1
   obtain⟨u,hu,cP⟩:=cL (j+i) c ((oo i iF).trans hi);exact⟨u,by rw[cC.cell,<-hu,acL],cP⟩
  obtain⟨u,fv,cP⟩:=sr ha hs hl hc hm;exact⟨_,u,cv,rfl,fv,hK,cP⟩
 .rename_i id esz i j;obtain⟨ay,rfl⟩:=hd;obtain⟨bk,hb,h⟩:=be.1 h;rw[aX]at hb;cases bk<;>simp only at h
  rename_i qt elems;rcases cU.1 h with⟨he,g1⟩|⟨_,g1⟩
  case inr=>exact g1.elim
  have he:esz=qt:=aaX he;subst he;obtain⟨cells,fg,g2⟩:=be.1 g1;rw[aX]at fg;obtain⟨l,hr,g3⟩:=be.1 g2;rcases cU.1 g3 with⟨k6,g4⟩|⟨_,g4⟩
  case inr=>exact g4.elim
  obtain⟨cv,hm,hK⟩:=be.1 g4;obtain⟨hl,oo⟩:=mz hr;obtain⟨h2,h3,h4,h5,DE⟩:=hM.bk id _ hb;have s7:=(Mp.1 fg).1;obtain⟨cur,cC,h1,cL⟩:=DE om;have hc:oY ρ w (ρ.aW (.aA id)).b ((ρ.aW (.aA id)).aB+i*esz+j) l:=by
   intro k c hi;have iF:k<n:=by rw[<-hl];exact(Mp.1 hi).1
   obtain⟨u,hu,cP⟩:=cL i cells (j+k) c fg ((oo k iF).trans hi);exact⟨u,by rw[cC.cell,<-hu,acL _ j k],cP.ZY (x8 k6 c (Wm hi))⟩
  obtain⟨u,fv,cP⟩:=sr ha hs hl hc hm;exact⟨_,u,cv,rfl,fv,hK,cP⟩
 .rename_i ds;obtain⟨b,off,rfl,hS,cL⟩:=hd;obtain⟨l,hr,h⟩:=be.1 h;obtain⟨cv,hm,hK⟩:=be.1 h;obtain⟨hl,oo⟩:=x7 hr;have hc:oY ρ w b off l:=by
   intro i c hi;have iF:i<n:=by rw[<-hl];exact(Mp.1 hi).1
   obtain⟨d,xA,Gb⟩:=oo i iF;rw[hi]at Gb;simp at Gb;subst Gb;exact cL i d xA
  obtain⟨u,fv,cP⟩:=sr ha hs hl hc hm;exact⟨_,u,cv,rfl,fv,hK,cP⟩
 .exact h.elim
def eM(P:Program)(s:Sem Next)(ρ:b9)(m:Mem)(w:World)(K:CV->Mem->Prop):Prop:=
 ∃nx v w' cv m' U',s.run P w= .ok nx w'/\(nx= .value v\/(nx= .skip/\v=Go.undef))/\K cv m'/\aN U' m' w'/\cG U' w' cv v/\Ext ρ m w U' m' w'
theorem eM.pure{s:Sem Next}{v:Value}{cv:CV}{K:CV->Mem->Prop}(hM:aN ρ m w)(hr:s.run P w= .ok (.value v) w)(hK:K cv m)(hd:cG ρ w cv v):eM P s ρ m w K:=
 ⟨_,v,w,cv,m,ρ,hr,.inl rfl,hK,hM,hd,Ext.refl _ _ _⟩
theorem cf{v x:Value}(h:cG ρ w (.rv (.one (.ai (.val x)))) v)(hx:x≠.slice none 0 0:=by first|(intro hh;cases hh;done)|assumption|simp):v=x/\eE x=true:=by
 cases h with
 |val v h=>exact⟨rfl,h⟩
 |no a=>exact absurd rfl hx
theorem cS{v:Value}(h:eE v=true):cG ρ w (.rv (.one (.ai (.val v)))) v:=dG.val v h
theorem SF{t:TypeId}(ht:P.underlying t=some .bool)(neg:Bool)(a b:Bool):
  (binOp (if neg then .neq else .eql) t (.bool a) (.bool b)).run P w= .ok (.bool (match neg with|true=>!(a==b)|false=>a==b)) w:=by
 have h:∀d,(Op.equalIn (d+1) t (.bool a) (.bool b)).run P w= .ok (a==b) w:=λd=>by rw[Op.equalIn];simp[run_underlying ht]
 have h2:(Op.equal t (.bool a) (.bool b)).run P w= .ok (a==b) w:=h 9999;cases neg<;>simp[binOp,h2]
theorem Gy{op:BinOp}{x y v:Value}(h:DR op x y=some v){t:TypeId}:(binOp op t x y).run P w= .ok v w/\eE v=true:=by
 cases x<;>cases y<;>simp only[DR]at h<;>try(cases h;done)
 case int.int k a k' b=>
  by_cases hk:k=k'
  .subst hk;cases op<;>simp only[decide_true]at h
   case shl=>
    by_cases hb:b<0
    .simp[hb]at h
    .simp[hb]at h;subst h;simp[binOp,Op.shift,hb,eE]
   case shr=>
    by_cases hb:b<0
    .simp[hb]at h
    .simp[hb]at h;subst h;simp[binOp,Op.shift,hb,eE]
   case quo=>
    by_cases hb:b=0
    .simp[hb]at h
    .simp[hb]at h;subst h;simp[binOp,Op.intDiv,hb,eE]
   case rem=>
    by_cases hb:b=0
    .simp[hb]at h
    .simp[hb]at h;subst h;simp[binOp,Op.intDiv,hb,eE]
   all_goals first
    |(cases h;done)
    |(simp only[abi]at h;subst h;simp[binOp,Op.intArith,Op.intBits,Op.intCmp,eE])
  .cases op<;>simp only[hk,decide_false]at h
   case shl=>
    by_cases hb:b<0
    .simp[hb]at h
    .simp[hb]at h;subst h;simp[binOp,Op.shift,hb,eE]
   case shr=>
    by_cases hb:b<0
    .simp[hb]at h
    .simp[hb]at h;subst h;simp[binOp,Op.shift,hb,eE]
   all_goals(cases h;done)
 case string.string a b=>
  cases op<;>simp only at h<;>try(cases h;done)
  case add=>
   by_cases hb:((a.size+b.size:Nat):Int)>IntKind.i64.max
   .rw[decide_eq_true hb]at h;cases h
   .rw[decide_eq_false hb]at h;simp only[abi]at h;subst h;refine⟨?_,rfl⟩;simp only[binOp,Op.stringOp];rw[if_neg hb];rfl
  all_goals(simp only[abi]at h;subst h;simp[binOp,Op.stringOp,eE])
theorem Lg{op:UnOp}{x v:Value}(h:unV op x=some v):(Op.unary op x).run P w= .ok v w/\eE v=true:=by
 cases x<;>simp only[unV]at h<;>try(cases h;done)
 all_goals cases op<;>simp only at h<;>try(cases h;done)
 all_goals(simp only[abi]at h;subst h;simp[Op.unary,Op.intArith,eE])
theorem we{op:BinOp}{t:TypeId}{x y:Operand}{a b:Value}(ha:eE a=true)(hn:a≠.nilIface):(eqGuard op t x y a b).run P w= .ok () w:=by
 unfold eqGuard;cases op<;>simp
 all_goals(cases a<;>simp_all[eE])
end
section
variable {P:Program} {ρ:b9} {m:Mem} {w:World} {ba:List CV} {a:Act} {K:CV->Mem->Prop}
theorem lh{cv:CV}{v:Value}{cs:List CC}(h:cellsOf cv=some cs)(hd:cG ρ w cv v):
  v.cells.size=cs.length/\(∀(i:Nat)c,cs[i]? =some c->∃u,v.cells[i]? =some u/\bJ ρ w .none c u)/\(∀u∈v.cells.toList,u.oneCell'=true):=by
 unfold cellsOf at h;split at h
 .rename_i c;simp at h;subst h;have h1:v.oneCell'=true:=bJ.one hd;have hc:v.cells= #[v]:=by cases v<;>first|rfl|simp[Value.oneCell']at h1
  refine⟨by simp[hc],λi c' hi=>?_,by rw[hc];simpa using h1⟩
  cases i with
  |zero=>simp at hi;subst hi;exact⟨v,by simp[hc],hd⟩
  |succ i=>simp at hi
 .rename_i fD;simp at h;subst h;obtain⟨vs,rfl,hl,hc⟩:=hd;refine⟨by simp[Value.cells,hl],λi c hi=>?_,λu hu=>?_⟩
  .obtain⟨u,hu,cP⟩:=hc i c hi;exact⟨u,by simpa[Value.cells]using hu,cP⟩
  .simp only[Value.cells]at hu;obtain⟨i,hi,rfl⟩:=aei hu;have fm:i<vs.length:=by simpa using hi
   obtain⟨u,Gz,cP⟩:=hc i (fD[i]'(by omega)) (xm om)
   rw[xm fm]at Gz;simp at Gz;simpa[Gz]using cP.one
 .cases h
theorem fQ:∀{vs:List Value}{cs:List CC},od vs=some cs->vs.length=cs.length/\∀(i:Nat)c,cs[i]? =some c->∃u,vs[i]? =some u/\bJ ρ w .none c u
 | [],cs,h=>by simp[od]at h;subst h;simp
 |v::r,cs,h=>by
  simp only[od,XX,V3]at h;obtain⟨c,hc,l,hl,h⟩:=h;simp at h;subst h;obtain⟨h1,h2⟩:=fQ hl;refine⟨by simp[h1],λi c' hi=>?_⟩
  cases i with
  |zero=>simp at hi;subst hi;exact⟨v,aG,sq hc⟩
  |succ i=>simpa using h2 i c' (by simpa using hi)
theorem DX(hM:aN ρ m w){cs:List CC}{cells:Array Value}{ty:TypeId}{w':World}(hw:w'=w.alloc (.cells cells ty)\/w'=w.drew.alloc (.cells cells ty))(hd:∀(i:Nat)c,cs[i]? =some c->∃u,cells[i]? =some u/\bJ ρ w .none c u):
  ∃U',aN U' (m++ [.var cs]) w'/\Ext ρ m w U' (m++ [.var cs]) w'/\cG U' w' (.rv (.one (.ptr m.length 0))) (.pointer (some ⟨w.heap.size,0,none⟩)):=by
 have Vq:fu w w':=by
  rcases hw with rfl|rfl
  .exact fu.alloc w _
  .exact(fu.drew w).trans (fu.alloc w.drew _)
 have cC:nN True w' w.heap.size cells:=by
  rcases hw with rfl|rfl
  .exact nN.new w cells ty
  .exact nN.new w.drew cells ty
 have eu:w.heap.size<w'.heap.size:=cC.lt;let l:Ag:=⟨w.heap.size,0,0,0⟩;have hn:=hM.n;have da:(ρ.push l).aW (.aA m.length)=l:=by rw[<-hn];exact ρ.lg l
 have g:j7 ρ w (ρ.push l) w':=⟨by simp[b9.push],λk hk=>ρ.fP l hk,λb hb=>hb,λb hb=>Vq.heap b (hM.S b hb)⟩
 have hb:ft (ρ.push l) w' m.length (.var cs):=by
  refine⟨cells,by rw[da];exact cC,λj c hj=>?_⟩
  obtain⟨u,hu,cP⟩:=hd j c hj;exact⟨u,by rw[da];simpa[l]using hu,cP.dg g aG⟩
 obtain⟨h1,h2⟩:=hM.push (l:=l) Vq (aah _) eu hb trivial;refine⟨_,h1,h2,by simp[b9.push,hn],?_⟩
 rw[da]
theorem Om(hM:aN ρ m w){esz cap:Nat}{elems:List (List CC)}{cells:Array Value}{ty:TypeId}{w':World}(hw:w'=w.alloc (.cells cells ty)\/w'=w.drew.alloc (.cells cells ty))(eu:cap*esz<=cells.size)(hlen:elems.length<=cap)(bF:cap<=maxLen)(oR:∀cs,cs∈elems->cs.length=esz)(hd:∀(i:Nat)cs(j:Nat)c,elems[i]? =some cs->cs[j]? =some c->∃u,cells[i*esz+j]? =some u/\bJ ρ w .none c u):
  ∃U',aN U' (m++ [.row esz elems]) w'/\Ext ρ m w U' (m++ [.row esz elems]) w'/\
   cG U' w' (.rv (.one (.row m.length esz 0 none))) (.slice (some ⟨w.heap.size,0,none⟩) elems.length cap):=by
 have Vq:fu w w':=by
  rcases hw with rfl|rfl
  .exact fu.alloc w _
  .exact(fu.drew w).trans (fu.alloc w.drew _)
 have cC:nN (esz=1) w' w.heap.size cells:=by
  rcases hw with rfl|rfl
  .exact nN.new w cells ty
  .exact nN.new w.drew cells ty
 have ay:w.heap.size<w'.heap.size:=cC.lt;let l:Ag:=⟨w.heap.size,0,elems.length,cap⟩;have hn:=hM.n;have da:(ρ.push l).aW (.aA m.length)=l:=by rw[<-hn];exact ρ.lg l
 have g:j7 ρ w (ρ.push l) w':=⟨by simp[b9.push],λk hk=>ρ.fP l hk,λb hb=>hb,λb hb=>Vq.heap b (hM.S b hb)⟩
 have hb:ft (ρ.push l) w' m.length (.row esz elems):=by
  refine⟨by rw[da],by rw[da];exact hlen,by rw[da];exact bF,oR,λ_=>⟨cells,by rw[da];exact cC,by rw[da];simpa[l]using eu,λi cs j c hi hj=>?_⟩⟩
  obtain⟨u,hu,cP⟩:=hd i cs j c hi hj;exact⟨u,by rw[da];simpa[l]using hu,(cP.dg g aG).x9 _⟩
 obtain⟨h1,h2⟩:=hM.push (l:=l) Vq (aah _) ay hb (λi cs j c hi hj=>by obtain⟨u,hu,cP⟩:=hd i cs j c hi hj;exact cP.Cc)
 refine⟨_,h1,h2,by simp[b9.push,hn],?_⟩
 rw[da];refine⟨aG,aG,hlen,bF,_,rfl,λ_=>?_⟩
 simp[l]
theorem DY(hM:aN ρ m w){t:TypeId}{z:List CC}(hz:eV P t=some z)(h:step P (.alloc z) ba m K):
  eM P (do pure (Next.value (<-Instr.alloc t true (.tuple #[])))) ρ m w K:=by
 simp only[eV,XX,V3]at hz;obtain⟨i,hi,v,hv,hc⟩:=hz;obtain⟨hl,hd⟩:=fQ (ρ:=ρ) (w:=w) hc;obtain⟨U',h1,h2,h3⟩:=DX hM (ty:=t) (cells:=v.cells) (.inl rfl) (λi c hi=>by
  obtain⟨u,hu,cP⟩:=hd i c hi;exact⟨u,by simpa using hu,cP⟩)
 simp only[step,kZ,cw]at h;refine⟨_,_,_,_,_,U',?_,.inl rfl,h,h1,h3,h2⟩;simp[Instr.alloc,zeroValue,typeInfo,hi,hv,newVar,newRow]
theorem Lh(hM:aN ρ m w)(hE:bu ρ w ba a.tmps){t:TypeId}{x:Operand}{x':X}(hx:bG x=some x')(h:step P (.box x') ba m K):
  eM P (do pure (Next.value (<-Instr.box t (a.eval x)))) ρ m w K:=by
 simp only[step]at h;obtain⟨cs,fF,h⟩:=be.1 h;obtain⟨hl,hd,_⟩:=lh fF (aU hE hx);obtain⟨U',h1,h2,h3⟩:=DX hM (ty:=t) (cells:=(a.eval x).cells) (.inl rfl) hd;simp only[kZ,cw]at h;refine⟨_,_,_,_,_,U',?_,.inl rfl,h,h1,h3,h2⟩;simp[Instr.box,newVar,newRow]
theorem uS(off:Nat):∀(vs:List Value)(k:Nat)(cells:Array Value),
  let r:=(vs.zipIdx k).foldl (λ(cs:Array Value)(p:Value×Nat)=>cs.setIfInBounds (off+p.2) p.1) cells
  r.size=cells.size/\(off+k+vs.length<=cells.size->∀i,r[i]? =if off+k<=i/\i<off+k+vs.length then vs[i-(off+k)]? else cells[i]?)
 | [],k,cells=>by simp;intro _ i h1 h2;omega
 |v::r,k,cells=>by
  simp only[List.zipIdx_cons,List.foldl_cons];obtain⟨h1,h2⟩:=uS off r (k+1) (cells.setIfInBounds (off+k) v);refine⟨by rw[h1];simp,λhle i=>?_⟩
  simp only[aaY]at hle;rw[h2 (by simp;omega) i]
  by_cases hc:off+(k+1)<=i/\i<off+(k+1)+r.length
  .rw[if_pos hc,if_pos (by simp;omega)]
   rw[show i-(off+k)=(i-(off+(k+1)))+1 by omega]
   simp
  .rw[if_neg hc];by_cases he:i=off+k
   .subst he;rw[if_pos aG];simp only[aea,List.getElem?_cons_zero];rw[adL];simp;omega
   .rw[if_neg (by simp;omega),adL,if_neg om]
def Cells(ρ:b9)(w:World)(cs:List CC)(cells:Array Value):Prop:=
 cells.size=cs.length/\∀(i:Nat)c,cs[i]? =some c->∃u,cells[i]? =some u/\bJ ρ w .none c u
theorem DZ{place:Nat->Option (Nat×Nat)}{i off sz:Nat}{v:Value}{rest:List (Nat×Value)}{z z' cs:List CC}{cells:Array Value}(hp:place i=some (off,sz))(hz:Cells ρ w z cells)(hv:v.cells.size=sz)(ia:cs.length=sz)(hd:∀(i:Nat)c,cs[i]? =some c->∃u,v.cells[i]? =some u/\bJ ρ w .none c u)(hw:iS z off cs=some z'):∃fW,Instr.fill place cells ((i,v)::rest)=Instr.fill place fW rest/\Cells ρ w z' fW:=by
 obtain⟨h1,h2,h3⟩:=ld hw;refine⟨(v.cells.zipIdx.foldl (λcs(p:Value×Nat)=>cs.setIfInBounds (off+p.2) p.1) cells),?_,?_⟩
 .rw[Instr.fill,hp];simp only;rw[if_neg (by rw[hz.1];simp;omega)]
 .have hf:=uS off v.cells.toList 0 cells;simp only[aeo]at hf;have he:v.cells.zipIdx.foldl (λcs(p:Value×Nat)=>cs.setIfInBounds (off+p.2) p.1) cells=(v.cells.toList.zipIdx 0).foldl (λ(cs:Array Value)(p:Value×Nat)=>cs.setIfInBounds (off+p.2) p.1) cells:=by rw[<-Array.foldl_toList];simp
  rw[he];refine⟨by rw[hf.1,hz.1,h1],λk c hk=>?_⟩
  rw[hf.2 (by rw[hz.1];simp;omega) k]
  rw[h3 k]at hk;have hlen:v.cells.toList.length=cs.length:=by simp[hv,ia]
  rw[hlen];by_cases hc:off<=k/\k<off+cs.length
  .rw[if_pos hc]at hk|-;obtain⟨u,hu,cP⟩:=hd _ c hk;exact⟨u,by simpa using hu,cP⟩
  .rw[if_neg hc]at hk|-;exact hz.2 k c hk
theorem wg(hE:bu ρ w ba a.tmps){fs:Array Field}{place:Nat->Option (Nat×Nat)}(fb:∀i f,fs[i]? =some f->∀n,fE P f.type=some n->place i=some (f.offset,n)):
  ∀{ps:List (Nat×Operand)}{oZ:List (Nat×Nat×X)}{z z':List CC}{cells:Array Value},oe P fs ps=some oZ->qq ba z oZ=some z'->Cells ρ w z cells->
   ∃fW,Instr.fill place cells (ps.map λp=>(p.1,a.eval p.2))=some fW/\Cells ρ w z' fW
 | [],oZ,z,z',cells,hp,hf,hz=>by simp[oe]at hp;subst hp;simp[qq]at hf;subst hf;exact⟨cells,rfl,hz⟩
 |(i,x)::r,oZ,z,z',cells,hp,hf,hz=>by
  simp only[oe,XX,V3]at hp;obtain⟨f,Zk,n,hn,x',hx,r',hr,hp⟩:=hp;simp at hp;subst hp;simp only[qq]at hf;split at hf
  .rename_i cs fF;split at hf
   .rename_i hlen;have hlen:cs.length=n:=aaX hlen;split at hf
    .rename_i z1 Li;obtain⟨h1,h2,_⟩:=lh fF (aU hE hx);obtain⟨WN,he,GA⟩:=DZ (rest:=r.map λp=>(p.1,a.eval p.2)) (fb i f Zk n hn) hz (h1.trans hlen) hlen h2 Li
     obtain⟨fW,wa,tm⟩:=wg hE fb hr hf GA;exact⟨fW,by rw[ac6,he,wa],tm⟩
    .cases hf
   .cases hf
  .cases hf
theorem wh(hE:bu ρ w ba a.tmps){sz:Nat}{place:Nat->Option (Nat×Nat)}(fb:∀i,place i=some (i*sz,sz)):
  ∀{ps:List (Nat×Operand)}{oZ:List (Nat×Nat×X)}{z z':List CC}{cells:Array Value},me sz ps=some oZ->qq ba z oZ=some z'->Cells ρ w z cells->
   ∃fW,Instr.fill place cells (ps.map λp=>(p.1,a.eval p.2))=some fW/\Cells ρ w z' fW
 | [],oZ,z,z',cells,hp,hf,hz=>by simp[me]at hp;subst hp;simp[qq]at hf;subst hf;exact⟨cells,rfl,hz⟩
 |(i,x)::r,oZ,z,z',cells,hp,hf,hz=>by
  simp only[me,XX,V3]at hp;obtain⟨x',hx,r',hr,hp⟩:=hp;simp at hp;subst hp;simp only[qq]at hf;split at hf
  .rename_i cs fF;split at hf
   .rename_i hlen;have hlen:cs.length=sz:=aaX hlen;split at hf
    .rename_i z1 Li;obtain⟨h1,h2,_⟩:=lh fF (aU hE hx);obtain⟨WN,he,GA⟩:=DZ (rest:=r.map λp=>(p.1,a.eval p.2)) (fb i) hz (h1.trans hlen) hlen h2 Li
     obtain⟨fW,wa,tm⟩:=wh hE fb hr hf GA;exact⟨fW,by rw[ac6,he,wa],tm⟩
    .cases hf
   .cases hf
  .cases hf
theorem GC{t:TypeId}{z:List CC}(hz:eV P t=some z):∃v,(zeroValue t).run P w= .ok v w/\Cells ρ w z v.cells:=by
 simp only[eV,XX,V3]at hz;obtain⟨i,hi,v,hv,hc⟩:=hz;obtain⟨hl,hd⟩:=fQ (ρ:=ρ) (w:=w) hc;refine⟨v,by simp[zeroValue,typeInfo,hi,hv],by simpa using hl,λi c hi=>?_⟩
 obtain⟨u,hu,cP⟩:=hd i c hi;exact⟨u,by simpa using hu,cP⟩
theorem Jn{cs:List CC}{cells:Array Value}(h:Cells ρ w cs cells):cG ρ w (.rv (.agg cs)) (.agg cells):=
 ⟨cells.toList,aG,by simpa using h.1,λi c hi=>let⟨u,hu,hd⟩:=h.2 i c hi;⟨u,by simpa using hu,hd⟩⟩
end
section
variable {P:Program} {ρ:b9} {m:Mem} {w:World} {ba:List CV} {a:Act} {K:CV->Mem->Prop}
theorem D0{α β:Type}{f:α->Option β}:∀{l:List α}{r:List β},l.mapM f=some r->∀(i:Nat)x,l[i]? =some x->∃y,f x=some y/\r[i]? =some y
 | [],r,h,i,x,hx=>by simp at hx
 |a::l,r,h,i,x,hx=>by
  simp only[List.mapM_cons,XX,V3,Option.pure_def]at h;obtain⟨y,hy,ys,hys,h⟩:=h;simp at h;subst h;cases i with
  |zero=>simp at hx;subst hx;exact⟨y,hy,aG⟩
  |succ i=>simpa using D0 hys i x (by simpa using hx)
theorem wj(hM:aN ρ m w)(hE:bu ρ w ba a.tmps){t:TypeId}{ps:Array (Nat×Operand)}{z:List CC}{oZ:List (Nat×Nat×X)}(hz:eV P t=some z)(hp:(∃fs,P.underlying t=some (.struct fs)/\(fs.toList.mapM (λf=>(P.info? f.type).map λi=>(f.offset,i.size))).isSome=true/\oe P fs ps.toList=some oZ)\/
   (∃n e sz,P.underlying t=some (.array n e)/\fE P e=some sz/\me sz ps.toList=some oZ))(h:step P (.build z oZ) ba m K):eM P (do pure (Next.value (<-Instr.build t (ps.map λ(i,x)=>(i,a.eval x))))) ρ m w K:=by
 simp only[step]at h;obtain⟨z',hf,hK⟩:=be.1 h;have DF:=hz;simp only[eV,XX,V3]at hz;obtain⟨i,hi,v,hv,hc⟩:=hz;obtain⟨hl,hd⟩:=fQ (ρ:=ρ) (w:=w) hc;have fg:Cells ρ w z v.cells:=⟨by simpa using hl,λi c hi=>by
  obtain⟨u,hu,cP⟩:=hd i c hi;exact⟨u,by simpa using hu,cP⟩⟩
 have key:∃cells,P.built t (ps.map λ(i,x)=>(i,a.eval x)).toList=some cells/\Cells ρ w z' cells:=by
  rcases hp with⟨fs,hu,gM,hlp⟩|⟨n,e,sz,hu,eu,hlp⟩
  .obtain⟨places,fb⟩:=Option.isSome_iff_exists.1 gM;obtain⟨cells,h1,h2⟩:=wg hE (fs:=fs) (place:=λi=>places.toArray[i]?) (λi f Zk n hn=>by
    obtain⟨y,hy,hr⟩:=D0 fb i f (by simpa using Zk)
    simp only[fE,aba]at hn hy;obtain⟨i1,Vr,rfl⟩:=hn;obtain⟨i2,fh,rfl⟩:=hy;rw[Vr]at fh;cases fh;simpa using hr) hlp hf fg
   refine⟨cells,?_,h2⟩;unfold Program.built;simp only[hi,hu,hv,fb];simpa using h1
  .obtain⟨cells,h1,h2⟩:=wh hE (sz:=sz) (place:=λi=>some (i*sz,sz)) (λi=>rfl) hlp hf fg
   refine⟨cells,?_,h2⟩;simp only[fE,aba]at eu;obtain⟨ie,iD,rfl⟩:=eu;unfold Program.built;simp only[hi,hu,hv,iD];simpa using h1
 obtain⟨cells,hb,fF⟩:=key;refine eM.pure hM (v:= .agg cells) ?_ hK (Jn fF);rw[Sem.run_bind,run_build w t _ cells hb];rfl
theorem GD(hM:aN ρ m w)(hE:bu ρ w ba a.tmps){t:TypeId}{x:Operand}{x':X}{agg:Bool}{n:Nat}(ha:fl P t=some agg)(hs:fE P t=some n)(hx:bG x=some x')(h:step P (.load agg n x') ba m K):eM P (do pure (Next.value (<-Instr.loadAt t (a.eval x)))) ρ m w K:=by
 simp only[step]at h;obtain⟨ad,u,cv,hv,hr,hK,hd⟩:=wd hM ha hs h (aU hE hx);refine eM.pure hM (v:=u) ?_ hK hd;rw[hv];simp[Instr.loadAt,Instr.sureAddr,hr]
theorem o0{mk:Prop}(g o:Nat):∀(vs:List Value)(i:Nat)(cur:Array Value)(w:World),nN mk w g cur->o+i+vs.length<=cur.size->(∀v∈vs,v.oneCell'=true)->
  ∃w' iT,(storeCells ⟨g,o,none⟩ vs i).run P w= .ok () w'/\nN mk w' g iT/\nR w w' g/\iT.size=cur.size/\
   ∀k,iT[k]? =if o+i<=k/\k<o+i+vs.length then vs[k-(o+i)]? else cur[k]?
 | [],i,cur,w,hc,_,_=>⟨w,cur,rfl,hc,⟨λ_ _=>rfl,rfl,rfl,rfl,rfl⟩,rfl,λk=>by rw[if_neg aG]⟩
 |v::r,i,cur,w,hc,hl,h1=>by
  simp only[aaY]at hl;have hi:o+i<cur.size:=om;have li:w.cell? ⟨g,o+i,none⟩=some cur[o+i]:=by rw[hc.cell];simp[hi]
  have aew:=hc.se hi;have wZ:(store ((⟨g,o,none⟩:Addr).add i) v).run P w= .ok () (w.setCell ⟨g,o+i,none⟩ v):=by rw[nS,run_store P w _ v _ (h1 v aG),li];simp[aew]
  have GA:nN mk (w.setCell ⟨g,o+i,none⟩ v) g (cur.setIfInBounds (o+i) v):=by
   obtain⟨ty,fr,hb,hf⟩:=hc;refine⟨ty,fr,?_,by simpa using hf⟩
   simp[World.setCell,ads,hb]
  have Ce:nR w (w.setCell ⟨g,o+i,none⟩ v) g:=⟨λb hb=>by simp[World.setCell,ads,Ne.symm hb],aG,rfl,rfl,rfl⟩
  obtain⟨w',iT,hr,tm,ht,eu,hk⟩:=o0 g o r (i+1) _ _ GA (by simp;omega) (λx hx=>h1 x (by simp[hx]))
  refine⟨w',iT,?_,tm,⟨λb hb=>(ht.heap b hb).trans (Ce.heap b hb),ht.size.trans Ce.size,ht.os,ht.tape,ht.output⟩,by simpa using eu,λk=>?_⟩
  .simp only[storeCells,Sem.run_bind,wZ,Result.andThen_ok];exact hr
  .rw[hk k];simp only[aaY];by_cases hb:o+(i+1)<=k/\k<o+(i+1)+r.length
   .rw[if_pos hb,if_pos om,show k-(o+i)=(k-(o+(i+1)))+1 by omega]
    simp
   .rw[if_neg hb,adL];by_cases he:o+i=k
    .subst he;rw[if_pos rfl,if_pos om];simp
    .rw[if_neg he,if_neg om]
theorem D1(hM:aN ρ m w)(hE:bu ρ w ba a.tmps){t:TypeId}{n:Nat}{p x:Operand}{p' x':X}(hs:fE P t=some n)(SG:n≠0)(hp:bG p=some p')(hx:bG x=some x')(h:step P (.store n p' x') ba m K):eM P (do Instr.storeAt t (a.eval p) (a.eval x);pure Next.skip) ρ m w K:=by
 simp only[step]at h;obtain⟨xs,Zl,h⟩:=be.1 h;rcases cU.1 h with⟨hn,h⟩|⟨_,h⟩
 case inr=>exact h.elim
 have hn:xs.length=n:=aaX hn;obtain⟨c1,c2,c3⟩:=lh Zl (aU hE hx);have hdp:=aU hE hp;generalize a.eval p=pv at hdp;generalize p'.ev ba=pc at hdp h;generalize a.eval x=xv at c1 c2 c3;have sv:∀ad:Addr,Instr.storeAt t (.pointer (some ad)) xv=storeVar t ad xv:=λad=>rfl
 have run:∀{mk:Prop}(b off:Nat)(cur:Array Value),nN mk w b cur->off+xs.length<=cur.size->∃w' iT,(storeVar t ⟨b,off,none⟩ xv).run P w= .ok () w'/\nN mk w' b iT/\nR w w' b/\iT.size=cur.size/\
   ∀k,iT[k]? =if off<=k/\k<off+xs.length then xv.cells[k-off]? else cur[k]? :=by
  intro mk b off cur hc hle;obtain⟨w',iT,h1,h2,h3,h4,h5⟩:=o0 (P:=P) b off xv.cells.toList 0 cur w hc (by simp[c1];omega) c3
  refine⟨w',iT,?_,h2,h3,h4,λk=>?_⟩
  .unfold storeVar;rw[Sem.run_bind,gv hs];simp only[Result.andThen_ok];rw[if_neg (by rw[c1,hn];simp)]
   simpa using h1
  .rw[h5 k];simp[c1]
 split at h
 .rename_i id j;obtain⟨ay,rfl⟩:=hdp;obtain⟨bk,hb,h⟩:=be.1 h;rw[aX]at hb;cases bk<;>simp only at h
  rename_i cs;obtain⟨fD,hw,hK⟩:=be.1 h;obtain⟨w1,w2,w3⟩:=ld hw;obtain⟨cur,cC,cL⟩:=hM.bk id _ hb;rw[br]at hK;have lX:(ρ.aW (.aA id)).aB+j+xs.length<=cur.size:=by obtain⟨u,hu,_⟩:=cL (j+xs.length-1) _ (xm om);have:=(abG.1 hu).1;omega
  obtain⟨w',iT,hr,tm,ht,eu,hk⟩:=run (ρ.aW (.aA id)).b ((ρ.aW (.aA id)).aB+j) cur cC lX;obtain⟨oq,hX⟩:=hM.Zj (Jm:= .var fD) hb ⟨_,hb,aG,by rintro⟨_,_,e⟩;cases e⟩ ht (λg=>⟨iT,tm,λk c On=>by
   rw[w3 k]at On;rw[hk];by_cases iF:j<=k/\k<j+xs.length
   .rw[if_pos iF]at On;rw[if_pos om];obtain⟨u,hu,cP⟩:=c2 _ c On;exact⟨u,by rw[<-hu];congr 1;omega,cP.dg g aG⟩
   .rw[if_neg iF]at On;rw[if_neg om];obtain⟨u,hu,cP⟩:=cL k c On;exact⟨u,hu,cP.dg g aG⟩⟩) (by
   rintro i' j' esz e ⟨es,rows,R3,lY,_,_⟩;rw[aal (by rw[<-hM.n];exact ay)]at lY
   cases lY)
  refine⟨.skip,Go.undef,w',.undef,_,ρ,?_,.inr ⟨rfl,rfl⟩,hK,oq,rfl,hX⟩;rw[sv,Sem.run_bind,hr];rfl
 .rename_i id esz i j;obtain⟨ay,rfl⟩:=hdp;obtain⟨bk,hb,h⟩:=be.1 h;rw[aX]at hb;cases bk<;>simp only at h
  rename_i qt elems;rcases cU.1 h with⟨he,h⟩|⟨_,h⟩
  case inr=>exact h.elim
  have he:esz=qt:=aaX he;obtain⟨cells,fg,h⟩:=be.1 h;rw[aX]at fg;rcases cU.1 h with⟨k6,h⟩|⟨_,h⟩
  case inr=>exact h.elim
  obtain⟨fW,hw,hK⟩:=be.1 h;obtain⟨w1,w2,w3⟩:=ld hw;obtain⟨h2,h3,h4,h5,DE⟩:=hM.bk id _ hb;have s7:=(Mp.1 fg).1;have dQ:0<(ρ.aW (.aA id)).cap:=om;obtain⟨cur,cC,h1,cL⟩:=DE dQ;rw[br,br]at hK;subst he;have ia:cells.length=esz:=h5 _ (Wm fg);have hi:i<elems.length:=(Mp.1 fg).1;have hmul:i*esz+esz<=(ρ.aW (.aA id)).cap*esz:=by have:(i+1)*esz<=(ρ.aW (.aA id)).cap*esz:=acr _ om;rwa [ade,adG]at this
  obtain⟨w',iT,hr,tm,ht,eu,hk⟩:=run (ρ.aW (.aA id)).b ((ρ.aW (.aA id)).aB+i*esz+j) cur cC om;obtain⟨oq,hX⟩:=hM.Zj (Jm:= .row esz (elems.set i fW)) hb ⟨_,hb,aG,λ_=>dQ⟩ ht (λg=>⟨by simpa using h2,h3,h4,λcs fF=>by
    rcases abF fF with hm|rfl
    .exact h5 cs hm
    .rw[w1,ia],λ_=>⟨iT,tm,by rw[eu];exact h1,λi' cs j' c fm su=>by
   rw[hk];by_cases R5:i=i'
   .subst R5;rw[aal hi]at fm;simp only[abi]at fm;subst fm;rw[w3 j']at su;by_cases iF:j<=j'/\j'<j+xs.length
    .rw[if_pos iF]at su;rw[if_pos om];obtain⟨u,hu,cP⟩:=c2 _ c su;exact⟨u,by rw[<-hu];congr 1;omega,(cP.dg g aG).x9 _⟩
    .rw[if_neg iF]at su;rw[if_neg om];obtain⟨u,hu,cP⟩:=cL i cells j' c fg su;exact⟨u,hu,cP.dg g (by rintro _ _ _ e;cases e;exact ay)⟩
   .rw[aap R5]at fm;obtain⟨u,hu,cP⟩:=cL i' cs j' c fm su;have ajw:j'<esz:=by rw[<-h5 _ (Wm fm)];exact(Mp.1 su).1
    have gj:¬((ρ.aW (.aA id)).aB+i*esz+j<=(ρ.aW (.aA id)).aB+i'*esz+j'/\(ρ.aW (.aA id)).aB+i'*esz+j'<(ρ.aW (.aA id)).aB+i*esz+j+xs.length):=by
     rcases Nat.lt_or_gt_of_ne R5 with qx|qx
     .have:(i+1)*esz<=i'*esz:=acr _ qx;rw[ade,adG]at this;omega
     .have:(i'+1)*esz<=i*esz:=acr _ qx;rw[ade,adG]at this;omega
    rw[if_neg gj];exact⟨u,hu,cP.dg g (by rintro _ _ _ e;cases e;exact ay)⟩⟩⟩) (by
   rintro i' j' Aj e ⟨es,rows,R3,lY,fh,mg⟩;rw[aal (by rw[<-hM.n];exact ay)]at lY
   cases lY;by_cases R5:i=i'
   .subst R5;rw[aal hi]at fh;cases fh;rw[w3 j']at mg;by_cases iF:j<=j'/\j'<j+xs.length
    .rw[if_pos iF]at mg;obtain⟨u,hu,cP⟩:=c2 _ _ mg;exact absurd rfl (cP.Cc _ _)
    .rw[if_neg iF]at mg;exact⟨esz,elems,cells,hb,fg,mg⟩
   .rw[aap R5]at fh;exact⟨esz,elems,R3,hb,fh,mg⟩)
  refine⟨.skip,Go.undef,w',.undef,_,ρ,?_,.inr ⟨rfl,rfl⟩,hK,oq,rfl,hX⟩;rw[sv,Sem.run_bind,hr];rfl
 .exact h.elim
end
end Go.AM
