/- Part 17 of 35. -/
import Derived.Test.YtllkfpggoigbaaaGreatDoorS15
import Derived.Test.YtllkfpggoigbaaaGreatDoorS16
set_option linter.unusedVariables false
set_option linter.unusedSimpArgs false
set_option linter.unnecessarySimpa false
set_option maxRecDepth 100000
set_option maxHeartbeats 0
namespace Go.Proofs.YtllkfpggoigbaaaGreatDoor
open Proofs.Tryz
open Go.AM Go.ChangeShapes Go.WideShapes Go.ChangeAt Go.RowKit
def c13:LF:= ⟨132,[.tmp 4],(.seq (.qU [qu 2 (.box 0),qu 3 (.box 1),qu 4 (.Iv (qb false))]) (.seq (.seq (.qU [qf 9 0 2,ql 10 9,qf 11 0 3,ql 12 11,qu 13 (.wd .neq 10 12),qm 14 13,qg 15 (.kp 1 2) 14 false,qg 16 (.load false 1 15) 14 false,qg 17 (.Ui 16) 14 false,qg 18 (.kp 1 3) 14 false,qg 19 (.load false 1 18) 14 false,qg 20 (.Ui 19) 14 false,qg 21 (.wd .neq 17 20) 14 false,qu 22 (.pick 14 (qb true) 21),qm 23 22,qg 24 (.kp 3 2) 23 false,qg 25 (.load false 1 24) 23 false,qg 26 (.kp 3 3) 23 false,qg 27 (.load false 1 26) 23 false,qg 28 (.wd .neq 25 27) 23 false,qu 29 (.pick 23 (qb true) 28),qm 30 29,qg 31 (.kp 4 2) 30 false,qg 32 (.load false 1 31) 30 false,qg 33 (.kp 4 3) 30 false,qg 34 (.load false 1 33) 30 false,qg 35 (.wd .neq 32 34) 30 false,qu 36 (.pick 30 (qb true) 35),qm 37 36,qg 38 (.kp 6 2) 37 false,qg 39 (.load false 1 38) 37 false,qg 40 (.kp 6 3) 37 false,qg 41 (.load false 1 40) 37 false,qg 42 (.wd .neq 39 41) 37 false,qu 43 (.pick 37 (qb true) 42),qm 44 43,qg 45 (.kp 7 2) 44 false,qg 46 (.load false 1 45) 44 false,qg 47 (.kp 7 3) 44 false,qg 48 (.load false 1 47) 44 false,qg 49 (.wd .neq 46 48) 44 false,qu 50 (.pick 44 (qb true) 49),qm 51 50,qg 52 (.kp 8 2) 51 false,qg 53 (.load false 1 52) 51 false,qg 54 (.kp 8 3) 51 false,qg 55 (.load false 1 54) 51 false,qg 56 (.wd .neq 53 55) 51 false,qu 57 (.pick 51 (qb true) 56),qm 58 57,qg 59 (.kp 2 2) 58 false,qg 60 (.load false 1 59) 58 false,qg 61 (.len 1 60) 58 false,qg 62 (.kp 2 3) 58 false,qg 63 (.load false 1 62) 58 false,qg 64 (.len 1 63) 58 false,qg 65 (.wd .neq 61 64) 58 false,qu 66 (.pick 58 (qb true) 65),qm 67 66,qg 68 (.kp 5 2) 67 false,qg 69 (.load false 1 68) 67 false,qg 70 (.len 1 69) 67 false,qg 71 (.kp 5 3) 67 false,qg 72 (.load false 1 71) 67 false,qg 73 (.len 1 72) 67 false,qg 74 (.wd .neq 70 73) 67 false,qu 75 (.pick 67 (qb true) 74)]) (.cond 75 (.seq (.qU [qu 4 (.Iv (qb false))]) .ret) .skip)) (.seq (.seq (.qU [qf 76 2 2,ql 77 76,qu 78 (.len 1 77),qu 79 (.Iv (qi 0))]) (.block 0 (.loop (.seq (.qU [qu 80 (.wd .lss 79 78)]) (.seq (.cond 80 .skip (.exit 0)) (.seq (.block 1 (.seq (.qU [qm 81 79,qm 5 81]) (.seq (.iK [qf 82 2 2,ql 83 82,qm 84 5,qu 85 (.Ru 2 83 84),qL 86 2 85,qf 87 2 3,ql 88 87,qm 89 5,qu 90 (.Ru 2 88 89),qL 91 2 90,qu 92 (.Nd true [.s,.i] 86 91)] [d9 11 0 .nil]) (.cond 92 (.seq (.qU [qu 4 (.Iv (qb false))]) .ret) .skip)))) (.qU [qu 93 (.wd .add 79 (qi 1)),qm 79 93]))))))) (.seq (.seq (.qU [qf 94 5 2,ql 95 94,qu 96 (.len 1 95),qu 97 (.Iv (qi 0))]) (.block 2 (.loop (.seq (.qU [qu 98 (.wd .lss 97 96)]) (.seq (.cond 98 .skip (.exit 2)) (.seq (.block 3 (.seq (.qU [qm 99 97,qm 6 99]) (.seq (.iK [qf 100 5 2,ql 101 100,qm 102 6,qu 103 (.Ru 4 101 102),qL 104 4 103,qf 105 5 3,ql 106 105,qm 107 6,qu 108 (.Ru 4 106 107),qL 109 4 108,qu 7 (.alloc [.bt,(.ai (.val (.bool false))),qd 0,qd 0]),qu 8 (.alloc [.bt,(.ai (.val (.bool false))),qd 0,qd 0]),qw (.store 4 7 104),qw (.store 4 8 109)] [(d9 10 0 (.zB (.cons 10 (some [9,8,6,4,3,1]) (.cons 11 (some [9,8,6,4,3,1]) (.cons 12 (some [9,8,6]) (.cons 13 (some []) .nil)))) (.cons 11 (some [9,8,6,4,3,1]) (.cons 10 (some [9,8,6,4,3,1]) (.cons 12 (some [9,8,6]) (.cons 13 (some []) .nil))))))]) (.seq (.qU [qf 110 0 7,ql 111 110,qu 112 (.Ui 111),qf 113 0 8,ql 114 113,qu 115 (.Ui 114),qu 116 (.wd .neq 112 115),qm 117 116,qg 118 (.kp 1 7) 117 false,qg 119 (.load false 1 118) 117 false,qg 120 (.kp 1 8) 117 false,qg 121 (.load false 1 120) 117 false,qg 122 (.beq true 119 121) 117 false,qu 123 (.pick 117 (qb true) 122),qm 124 123,qg 125 (.kp 2 7) 124 false,qg 126 (.load true 2 125) 124 false,qg 127 (.kp 2 8) 124 false,qg 128 (.load true 2 127) 124 false,qg 129 (.Nd true [.i,.i] 126 128) 124 false,qu 130 (.pick 124 (qb true) 129)]) (.cond 130 (.seq (.qU [qu 4 (.Iv (qb false))]) .ret) .skip))))) (.qU [qu 131 (.wd .add 97 (qi 1)),qm 97 131]))))))) (.seq (.qU [qu 4 (.Iv (qb true))]) .ret)))))⟩
theorem hU:∀b:List Int,xb ((eX b).map λds=>ds.map .ai)=some b
 | []=>rfl
 |x::r=>by have:=hU r;simp only[eX,ab2,aeg]at this|-;simp only[xb,this]
def bP(e:ByteArray×Int):List Dt:=[.val (.string e.1),.val (.int .i64 e.2)]
def cy.M1(q:cy):Prop:=∃b:List Int,q.data=eX b
def Obj.M1(o:Obj):Prop:=(∃b:List Int,o.data=eX b)/\(∃es:List (ByteArray×Int),o.ag=es.map bP)/\∀q,q∈o.aj->q.M1
theorem l13:bs prog f13=some c13:=by kernel_rfl
theorem Gv(o:Obj)(ht:o.M1)(hf:o.oi):body prog c13 [o.cv,o.cv] [] (λr m=>r=aq true):=by
 obtain⟨⟨b,hb⟩,⟨es,he⟩,hq⟩:=ht;obtain⟨_,Gt,Rb,_⟩:=hf;obtain⟨ah,data,ag,target,aG,aj,aQ,ak,up⟩:=o;simp only at hb he hq Gt Rb;subst hb he;rw[O9]at Gt;refine gG aD ?_;refine af (hU b) ?_;refine af (hU b) ?_;refine gG aD ?_;refine gG aD ?_;refine gG aD ?_;refine gG aD ?_;refine gG aD ?_;refine gG aD ?_;refine gG aD ?_;refine gG aD ?_;have vars:∀(f:Nat->Nat)(F:List Nat),True:=λ_ _=>trivial
 refine ar (λk=>k<=es.length) [2,3,78] (λk=>[(79,al .i64 (k:Nat))]) (λ_=>[.var (Obj.enc ⟨ah,eX b,es.map bP,target,aG,aj,aQ,ak,up⟩|>.map .ai),.var (Obj.enc ⟨ah,eX b,es.map bP,target,aG,aj,aQ,ak,up⟩|>.map .ai)]) (λk=>es.length-k) 0 (WG _) ?_ (λk hk=>?_)
 .refine View.o1 2 [0,1] [] ?_
  .exact .au
 have hk:k<=es.length:=hk;refine am (λh=>?_) (λh=>?_)
 .have ax:k<es.length:=by have h:(k:Int)<((es.map bP).length:Int):=h;rw[O9]at h;omega
  have hg:cm (es.map bP) (k:Nat)=some [.val (.string es[k].1),.val (.int .i64 es[k].2)]:=by rw[aU,Qu,wy ax];rfl
  refine af hg ?_;refine af hg ?_;refine gG aD ?_;refine⟨k+1,ax,(show es.length-(k+1)<es.length-k by omega),View.o2 2 [0,1] [] ?_⟩
  .exact .au
 .refine ar (λk=>k<=aj.length) [2,3,96] (λk=>[(97,al .i64 (k:Nat))]) (λ_=>[.var (Obj.enc ⟨ah,eX b,es.map bP,target,aG,aj,aQ,ak,up⟩|>.map .ai),.var (Obj.enc ⟨ah,eX b,es.map bP,target,aG,aj,aQ,ak,up⟩|>.map .ai)]) (λk=>aj.length-k) 0 (WG _) ?_ (λj hj=>?_)
  .refine View.o1 2 [0,1] [] ?_
   .exact .au
  have hj:j<=aj.length:=hj;refine am (λh=>?_) (λh=>?_)
  .have ax:j<aj.length:=by have h:(j:Int)<((aj.map cy.enc).length:Int):=h;rw[O9]at h;omega
   have hg:cm (aj.map cy.enc) (j:Nat)=some (aj[j].enc):=by rw[aU,Qu,wy ax];rfl
   obtain⟨b2,kG⟩:=hq aj[j] (aaR ax);generalize aj[j]=q at hg kG;obtain⟨dq,has,b8,rts⟩:=q;simp only at kG;subst kG;have hg:cm (aj.map cy.enc) (j:Nat)=some [.sl 1 (eX b2),.val (.bool has),.val (.int .i64 b8),.val (.int .i64 rts)]:=hg;refine af hg ?_;refine af hg ?_;refine⟨?_,?_⟩
   .refine⟨⟨rfl,af hg rfl,rfl,rfl,af hg rfl,rfl,trivial⟩,?_⟩;refine⟨⟨rfl,af hg rfl,rfl,rfl,af hg rfl,rfl,trivial⟩,?_⟩;refine⟨⟨rfl,af hg rfl,rfl,trivial⟩,trivial,?_⟩;refine af (hU b2) ?_;refine af (hU b2) ?_;refine gG aD ?_;refine gG aD ?_;refine gG aD ?_;refine⟨j+1,ax,(show aj.length-(j+1)<aj.length-j by omega),View.o2 4 [0,1] [] ?_⟩
    .exact .au
   .refine⟨⟨rfl,af hg rfl,rfl,rfl,af hg rfl,rfl,trivial⟩,?_⟩;refine⟨⟨rfl,af hg rfl,rfl,rfl,af hg rfl,rfl,trivial⟩,?_⟩;refine⟨⟨rfl,af hg rfl,rfl,trivial⟩,trivial,?_⟩;refine af (hU b2) ?_;refine af (hU b2) ?_;refine gG aD ?_;refine gG aD ?_;refine gG aD ?_;refine⟨j+1,ax,(show aj.length-(j+1)<aj.length-j by omega),View.o2 4 [0,1] [] ?_⟩
    .exact .au
  .exact rfl
theorem Oq(o:Obj)(ht:o.M1)(hf:o.oi){m:Mem}{K:CV->Mem->Prop}(h:K (aq true) m):ap prog 13 [o.cv,o.cv] m K:=
 bu func13 l13 rfl (aav rfl) (Gv o ht hf) (by simp[Obj.cv,CV.cW,CC.cW,RV.cW]) rfl h
def c30:LF:=Cq prog f30 [] []
theorem mW{l:List Obj}{k:Nat}(h:k<l.length):cm (l.map Obj.enc) (k:Nat)=some [.val (.int .i64 l[k].ah),.sl 1 l[k].data,.sl 2 l[k].ag,.val (.string l[k].target),.val (.int .i64 l[k].aG),.sl 4 (l[k].aj.map cy.enc),.val (.int .i64 l[k].aQ),.val (.int .i64 l[k].ak),.val (.int .i64 l[k].up)]:=by rw[aU,Qu,wy h];rfl
theorem l30:bs prog f30=some c30:=by kernel_rfl
inductive ld(Y:Nat->Nat)(m:Mem)(Z:Nat->Prop):List CC->List CC->Prop
 |nil:ld Y m Z [] []
 |cons {c c':CC} {r r':List CC} (h:sZ Y m Z none c c') (hr:ld Y m Z r r'):ld Y m Z (c::r) (c'::r')
theorem ld.len{Y:Nat->Nat}{m:Mem}{Z:Nat->Prop}{cs fg:List CC}(h:ld Y m Z cs fg):cs.length=fg.length:=by
 induction h<;>simp[*]
theorem ld.get{Y:Nat->Nat}{m:Mem}{Z:Nat->Prop}{cs fg:List CC}(h:ld Y m Z cs fg):∀(i:Nat)c c',cs[i]? =some c->fg[i]? =some c'->sZ Y m Z none c c':=by
 induction h with
 |nil=>intro i c c' h;simp at h
 |cons h hr ih=>
  intro i c c' h1 h2;cases i with
  |zero=>simp at h1 h2;subst h1 h2;exact h
  |succ i=>exact ih i c c' (by simpa using h1) (by simpa using h2)
theorem ld.agg{Y:Nat->Nat}{m:Mem}{Z:Nat->Prop}{cs fg:List CC}(h:ld Y m Z cs fg):sq Y m Z (.rv (.agg cs)) (.rv (.agg fg)):= .rv (.agg h.len h.get)
def c60:LF:=Cq prog f60 [] []
def c61:LF:=Cq prog f61 [] []
theorem l60:bs prog f60=some c60:=by kernel_rfl
theorem nM(s:ByteArray)(hs:s.size<=4194304):body prog c60 [dM s] [] (λr m=>∃b,r=aq b):=by
 refine ar (λk=>k<=s.size) [0,6] (λk=>[(7,al .i64 (k:Nat))]) (λ_=>[]) (λk=>s.size-k) 0 (WG _) ?_ (λk hk=>?_)
 .refine View.o1 0 [] [] (.nil _)
 have hk:k<=s.size:=hk;refine am (λh=>?_) (λh=>?_)
 .have ax:k<s.size:=by have h:(k:Int)<(s.size:Int):=h;omega
  obtain⟨c,hc⟩:∃c,cm s.data.toList (k:Nat)=some c:=by
   rw[aU];have:k<s.data.toList.length:=by simpa using ax
   exact⟨_,wy this⟩
  refine af hc ?_;repeat' refine aA (λ_=>?_) (λ_=>?_)
  all_goals first
   |exact⟨_,rfl⟩
   |(refine⟨k+1,ax,(show s.size-(k+1)<s.size-k by omega),View.o 0 [] [] ?_ (.nil _)⟩
     repeat(first|exact .nil|refine .aH ?_|refine .put (.aN (br om).symm) ?_|refine .eq rfl ?_))
 .repeat' refine aA (λ_=>?_) (λ_=>?_)
  all_goals exact⟨_,rfl⟩
theorem tf(s:ByteArray)(hs:s.size<=4194304){m:Mem}{K:CV->Mem->Prop}(h:∀b,K (aq b) m):ap prog 60 [dM s] m K:=by
 refine aR (K0:=λr _=>∃b,r=aq b) (aP func60 l60 (nM s hs)) (by simp[dM,CV.cW,CC.cW,RV.cW]) λr m1 hr=>?_
 obtain⟨b,rfl⟩:=hr;exact⟨_,cH.self rfl,h b⟩
structure Obj.sm(o:Obj):Prop where
 t:o.M1
 d:o.data.length<=64
 e:o.ag.length<=8
 q:o.aj.length<=8
 qd:∀q,q∈o.aj->q.data.length<=64
theorem Obj.sm.oi{o:Obj}(h:o.sm):o.oi:=⟨by have:=h.d;omega,by have:=h.e;omega,by have:=h.q;omega,λq hq=>by have:=h.qd q hq;omega⟩
theorem l61:bs prog f61=some c61:=by kernel_rfl
theorem ti{es:List (ByteArray×Int)}{k:Nat}(h:k<es.length):cm (es.map bP) (k:Nat)=some [.val (.string es[k].1),.val (.int .i64 es[k].2)]:=by rw[aU,Qu,wy h];rfl
def c28:LF:=Cq prog Tryz.f28 [] []
theorem V6{m:Mem}{Z:Nat->Prop}{p:Option Nat}{id:Nat}{X:List (List CC)}{es:List (ByteArray×Int)}(hz:Z id)(h:m[id]? =some (.row 2 X))(hX:X=aa (es.map bP)):cS m Z p (.row id 2 0 none) (.sl 2 (es.map bP)):=by subst hX;exact cS.da hz h 0 none
structure ZL where
 k:Nat
 d:Bool
 dz:List (ByteArray×Int)
theorem l28:bs prog Tryz.f28=some c28:=by kernel_rfl
def c31:LF:=Cq prog f31 [] []
structure dJ where
 has:Bool
 b8:Int
 rts:Int
def dJ.enc(s:dJ):List Dt:=[.val (.bool s.has),.val (.int .i64 s.b8),.val (.int .i64 s.rts)]
def gL(l:List dJ):Dt:= .sl 3 (l.map dJ.enc)
def B6(l:List dJ):RV:= .one (.ai (gL l))
def lY(l:List dJ):CV:= .rv (.one (.ai (gL l)))
theorem bm{α:Type}(f:α->List Dt)(l:List α){k:Nat}(h:k<l.length):dh (aa (l.map f)) k=some ((f l[k]).map .ai):=by rw[aW,aa,Qu,Qu,wy h];rfl
theorem lZ{α:Type}(f:α->List Dt)(l:List α)(k:Nat)(x:α):aX (aa (l.map f)) k ((f x).map .ai)=aa ((l.set k x).map f):=by rw[bh,aa,aa,abW,abW]
theorem Ot{m:Mem}{a b:RV}{x y:Int}(h:dE m a b):cH m (.bG [a,cK x,cK y]) (.bG [b,cK x,cK y]):=jV h (dE.self rfl)
theorem l31:bs prog f31=some c31:=by kernel_rfl
theorem pI:∀a:List UInt8,Op.bytesLess a a=false
 | []=>rfl
 |x::r=>by simp[Op.bytesLess,pI r]
theorem tj:∀{a b c:List UInt8},Op.bytesLess a b=true->Op.bytesLess b c=true->Op.bytesLess a c=true
 |a,[],_,h,_=>by cases a<;>simp[Op.bytesLess]at h
 |_,_::_,[],_,h=>by simp[Op.bytesLess]at h
 | [],_::_,_::_,_,_=>rfl
 |x::a,y::b,z::c,h1,h2=>by
  simp only[Op.bytesLess,acp,aaL,decide_eq_true_eq,beq_iff_eq]at h1 h2|-;rcases h1 with h1|⟨rfl,h1⟩
  .rcases h2 with h2|⟨rfl,h2⟩
   .exact .inl (UInt8.lt_trans h1 h2)
   .exact .inl h1
  .rcases h2 with h2|⟨rfl,h2⟩
   .exact .inl h2
   .exact .inr ⟨rfl,tj h1 h2⟩
theorem Ov:∀a b:List UInt8,Op.bytesLess a b=true\/a=b\/Op.bytesLess b a=true
 | [],[]=>.inr (.inl rfl)
 | [],_::_=>.inl rfl
 |_::_,[]=>.inr (.inr rfl)
 |x::a,y::b=>by
  simp only[Op.bytesLess,acp,aaL,decide_eq_true_eq,beq_iff_eq,adL];by_cases h:x<y
  .exact .inl (.inl h)
  .by_cases h2:y<x
   .exact .inr (.inr (.inl h2))
   .have e:x=y:=by have h3:¬x.toNat<y.toNat:=h;have h4:¬y.toNat<x.toNat:=h2;exact UInt8.toNat_inj.1 om
    subst e;rcases Ov a b with h5|h5|h5
    .exact .inl (.inr ⟨rfl,h5⟩)
    .exact .inr (.inl ⟨rfl,h5⟩)
    .exact .inr (.inr (.inr ⟨rfl,h5⟩))
abbrev NE:=ByteArray×Int
def B7(a b:ByteArray):Prop:=Op.bytesLess a.toList b.toList=true
def Gw(es:List NE):Prop:=es.Pairwise λa b=>B7 a.1 b.1
def Fu(a b:ByteArray):Bool:= !(Op.bytesLess a.toList b.toList||a.toList==b.toList)
theorem ZM{a b:ByteArray}(h:Fu a b=true):B7 b a:=by
 unfold Fu at h;simp only[aco,aej,beq_eq_false_iff_ne]at h;rcases Ov a.toList b.toList with h1|h1|h1
 .rw[h.1]at h1;cases h1
 .exact absurd h1 h.2
 .exact h1
theorem V7{a b:ByteArray}(h:Fu a b=false)(fG:a.toList≠b.toList):B7 a b:=by unfold Fu at h;simp only[Bool.not_eq_false',acp,beq_iff_eq]at h;exact h.elim id λh=>absurd h fG
structure jK(es:List NE)(x:NE)(k:Nat)(d:Bool)(dz:List NE):Prop where
 f:d=false->dz=es.take k/\∀(j:Nat)e,j<k->es[j]? =some e->Fu e.1 x.1=false
 t:d=true->∃i,i<k/\dz=es.take i++x::(es.take k).drop i/\(∀(j:Nat)e,j<i->es[j]? =some e->Fu e.1 x.1=false)/\∃e,es[i]? =some e/\Fu e.1 x.1=true
theorem jK.adN(es:List NE)(x:NE):jK es x 0 false []:=⟨λ_=>⟨rfl,λj e h=>absurd h (abE j)⟩,λh=>by cases h⟩
theorem uD{es:List NE}{k:Nat}(h:k<es.length):es.take (k+1)=es.take k++ [es[k]]:=by rw[acb,wy h];rfl
theorem jK.skip{es:List NE}{x:NE}{k:Nat}{dz:List NE}(h:jK es x k false dz)(hk:k<es.length)(hg:Fu es[k].1 x.1=false):jK es x (k+1) false (dz++ [es[k]]):=by
 obtain⟨h1,h2⟩:=h.f rfl;refine⟨λ_=>⟨by rw[uD hk,h1],λj e hj he=>?_⟩,λh=>by cases h⟩
 rcases aax j k with h3|h3
 .exact h2 j e h3 he
 .have:j=k:=om;subst this;rw[wy hk]at he;cases he;exact hg
theorem jK.Af{es:List NE}{x:NE}{k:Nat}{dz:List NE}(h:jK es x k false dz)(hk:k<es.length)(hg:Fu es[k].1 x.1=true):jK es x (k+1) true (dz++ [x,es[k]]):=by
 obtain⟨h1,h2⟩:=h.f rfl;refine⟨λh=>(by cases h),λ_=>⟨k,acI k,?_,h2,es[k],wy hk,hg⟩⟩
 rw[uD hk,h1,List.drop_left' (by simp;omega)]
theorem jK.bR{es:List NE}{x:NE}{k:Nat}{dz:List NE}(h:jK es x k true dz)(hk:k<es.length):jK es x (k+1) true (dz++ [es[k]]):=by
 obtain⟨i,h1,h2,h3,h4⟩:=h.t rfl;refine⟨λh=>(by cases h),λ_=>⟨i,om,?_,h3,h4⟩⟩
 rw[uD hk,aep (by simp;omega),h2]
 simp
theorem jK.len{es:List NE}{x:NE}{k:Nat}{d:Bool}{dz:List NE}(h:jK es x k d dz)(hk:k<=es.length):dz.length=k+d.toNat:=by
 cases d with
 |false=>
  rw[(h.f rfl).1];simp;omega
 |true=>
  obtain⟨i,h1,h2,_⟩:=h.t rfl;rw[h2];simp;omega
def fW(x:NE):List NE->List NE
 | []=>[x]
 |e::r=>if Fu e.1 x.1=true then x::e::r else e::fW x r
theorem tk{x:NE}:∀{a b:List NE},(∀e,e∈a->Fu e.1 x.1=false)->fW x (a++b)=a++fW x b
 | [],_,_=>rfl
 |e::a,b,h=>by
  show fW x (e::(a++b))=_;rw[fW,if_neg (by rw[h e aD];simp),tk λy hy=>h y (by simp[hy])]
  rfl
theorem I7{x e:NE}{r:List NE}(h:Fu e.1 x.1=true):fW x (e::r)=x::e::r:=by rw[fW,if_pos h]
theorem pJ{x:NE}:∀{es:List NE}{e:NE},e∈fW x es->e∈es\/e=x
 | [],e,h=>by simp[fW]at h;exact .inr h
 |y::r,e,h=>by
  rw[fW]at h;split at h
  .rcases abI.1 h with h|h
   .exact .inr h
   .exact .inl h
  .rcases abI.1 h with h|h
   .exact .inl (by simp[h])
   .rcases pJ h with h|h
    .exact .inl (by simp[h])
    .exact .inr h
theorem DX{x:NE}:∀es:List NE,(fW x es).length=es.length+1
 | []=>rfl
 |y::r=>by
  rw[fW];split
  .rfl
  .simp[DX r]
theorem jK.eq{es:List NE}{x:NE}{d:Bool}{dz:List NE}(h:jK es x es.length d dz):dz++(if d=true then []else [x])=fW x es:=by
 cases d with
 |false=>
  obtain⟨h1,h2⟩:=h.f rfl;rw[abD]at h1;subst h1;have:=tk (x:=x) (a:=dz) (b:=[]) λe he=>by obtain⟨j,hj⟩:=aak he;exact h2 j e (Lw.1 hj).1 hj
  rw[ab9]at this;rw[this];rfl
 |true=>
  obtain⟨i,h1,h2,h3,e0,h4,h5⟩:=h.t rfl;rw[abD]at h2;subst h2;have MW:=(Lw.1 h4).1;have hd:es.drop i=e0::es.drop (i+1):=by rw[acX MW,(Lw.1 h4).2]
  have:=tk (x:=x) (a:=es.take i) (b:=es.drop i) λe he=>by obtain⟨j,hj⟩:=aak he;have f4:=(Lw.1 hj).1;rw[aa8]at f4;rw[abK,if_pos om]at hj;exact h3 j e om hj
  rw[ady]at this;rw[this,hd,I7 h5];simp
theorem Ow{es:List NE}{x:NE}(hs:Gw es)(fG:∀e,e∈es->e.1.toList≠x.1.toList):Gw (fW x es):=by
 induction es with
 |nil=>exact adr.2 ⟨aD,List.Pairwise.nil⟩
 |cons e r ih=>
  obtain⟨h1,h2⟩:=adr.1 hs;rw[fW];split
  .rename_i hg;have hx:=ZM hg;refine adr.2 ⟨λy hy=>?_,hs⟩
   rcases abI.1 hy with rfl|hy
   .exact hx
   .exact tj hx (h1 y hy)
  .rename_i hg;rw[acL]at hg;refine adr.2 ⟨λy hy=>?_,ih h2 λy hy=>fG y (by simp[hy])⟩
   rcases pJ hy with hy|rfl
   .exact h1 y hy
   .exact V7 hg (fG e aD)
def oI(es:List NE)(name:ByteArray)(n:Int):Prop:=(∃e,e∈es/\e.1.toList=name.toList/\n=e.2)\/(n= -1/\∀e,e∈es->e.1.toList≠name.toList)
def eY(es:List NE)(name:ByteArray):Int:=match es.find? (λe=>decide (e.1.toList=name.toList))with
 |some e=>e.2
 |none=>-1
theorem xX{es:List NE}(hs:Gw es){a b:NE}(ha:a∈es)(hb:b∈es)(h:a.1.toList=b.1.toList):a=b:=by
 obtain⟨i,hi⟩:=aak ha;obtain⟨j,hj⟩:=aak hb;obtain⟨Uo,eR⟩:=Lw.1 hi;obtain⟨C0,k6⟩:=Lw.1 hj;have hp:=acw.1 hs;rcases adZ i j with h3|h3|h3
 .have:=hp i j Uo C0 h3;rw[eR,k6,B7,h,pI]at this;cases this
 .subst h3;rw[hi]at hj;cases hj;rfl
 .have:=hp j i C0 Uo h3;rw[eR,k6,B7,h,pI]at this;cases this
theorem gS(es:List NE)(name:ByteArray):oI es name (eY es name):=by
 unfold eY;cases h:es.find? (λe=>decide (e.1.toList=name.toList))with
 |some e=>
  have h1:=List.find?_some h;exact .inl ⟨e,List.mem_of_find?_eq_some h,by simpa using h1,rfl⟩
 |none=>exact .inr ⟨rfl,λe he=>by simpa using aey.1 h e he⟩
theorem mX{es:List NE}(hs:Gw es){name:ByteArray}{n k:Int}(h:oI es name n)(h2:oI es name k):n=k:=by
 rcases h with⟨e,he,h3,rfl⟩|⟨rfl,h3⟩
 .rcases h2 with⟨e',vf,h4,rfl⟩|⟨rfl,h4⟩
  .rw[xX hs he vf (h3.trans h4.symm)]
  .exact absurd h3 (h4 e he)
 .rcases h2 with⟨e',vf,h4,rfl⟩|⟨rfl,h4⟩
  .exact absurd h4 (h3 e' vf)
  .rfl
def noD:Dt:= .val (.slice none 0 0)
structure Ob where
 ah:Int
 data:List (List Dt)
 ag:List (List Dt)
 target:ByteArray
 aG:Int
 aj:Dt
 aQ:Int
 ak:Int
 up:Int
def Ob.enc(o:Ob):List Dt:=[.val (.int .i64 o.ah),.sl 1 o.data,.sl 2 o.ag,.val (.string o.target),.val (.int .i64 o.aG),o.aj,.val (.int .i64 o.aQ),.val (.int .i64 o.ak),.val (.int .i64 o.up)]
def Ob.cv(o:Ob):CV:= .rv (.agg (o.enc.map .ai))
def ia(l:List Ob):Dt:= .sl 9 (l.map Ob.enc)
def fX(l:List Ob):CV:= .rv (.one (.ai (ia l)))
def K9(l:List Ob):RV:= .one (.ai (ia l))
def Ox(l:List Ob)(e:Int):CV:= .bG [K9 l,cK e]
theorem Gx(l:List Ob)(k:Nat)(o:Ob):(aa (l.map Ob.enc)).set k (o.enc.map .ai)=aa ((l.set k o).map Ob.enc):=by simp[aa,abW]
def gw(l:List Ob)(k ah:Int):Bool:=decide (k>=0)&&(decide (k<l.length)&&match l[k.toNat]? with|none=>false|some o=>o.ah !=0&&(ah==0||o.ah==ah))
def fC(l:List Ob)(k:Int)(o:Ob):List Ob:=if k=l.length then l++ [o]else l.set k.toNat o
theorem Gy(l:List Ob)(hl:l.length<=4194304)(k:Nat)(hk:k<=l.length)(o:Ob):body prog c29 [fX l,al .i64 (k:Nat),o.cv] [] (λr m=>cH m r (fX (fC l k o))):=by
 have hlen:(aa (l.map Ob.enc)).length=l.length:=by simp[aa]
 refine⟨?_,?_⟩
 .show(0+(aa (l.map Ob.enc)).length)*128<=_;rw[hlen];omega
 refine ba (λh=>?_) (λh=>?_)
 .have h:k=l.length:=by have h:(k:Int)=((([]:List (List CC))++aa (l.map Ob.enc)).length:Int):=h;simp[hlen]at h;omega
  have e:fC l k o=l++ [o]:=by rw[fC,if_pos om]
  rw[e];refine⟨?_,?_⟩
  .show((([]:List (List CC))++aa (l.map Ob.enc)).length+1)*128<=_;simp[hlen];omega
  have eE:some (Bk.row 9 ((([]:List (List CC))++aa (l.map Ob.enc))++ [o.enc.map .ai]))=some (Bk.row 9 (aa ((l++ [o]).map Ob.enc))):=by rw[abM,bZ];rfl
  exact .rv (.one (d7.da eE 0 none))
 .have ax:k<l.length:=by have h:(k:Int)≠((([]:List (List CC))++aa (l.map Ob.enc)).length:Int):=h;simp[hlen]at h;omega
  have e:fC l k o=l.set k o:=by rw[fC,if_neg om,aal]
  rw[e];refine af (bJ (k:=k) (by show k<lenOf (([]:List (List CC))++aa (l.map Ob.enc)).length 0 none;simp[hlen,lenOf];omega)) ?_
  refine af (x:=l[k].enc.map .ai) (by show dh (([]:List (List CC))++aa (l.map Ob.enc)) (fL 0 k)=_;simpa[fL]using bm Ob.enc l ax) ?_
  have eE:some (Bk.row 9 (aX (([]:List (List CC))++aa (l.map Ob.enc)) (fL 0 k) (o.enc.map .ai)))=some (Bk.row 9 (aa ((l.set k o).map Ob.enc))):=by rw[bh,<-Gx];simp[fL]
  exact .rv (.one (d7.da eE 0 none))
theorem fw(l:List Ob)(hl:l.length<=4194304)(k:Nat)(hk:k<=l.length)(o:Ob){m:Mem}{K:CV->Mem->Prop}(h:K (fX (fC l k o)) m):ap prog 29 [fX l,al .i64 (k:Nat),o.cv] m K:=
 aR (aP func29 l29 (Gy l hl k hk o)) (by simp[fX,al,Ob.cv,CV.cW,CC.cW,RV.cW]) λr m1 hf=>⟨_,hf,h⟩
def oJ(l:List Ob):Nat:=(l.findIdx? (λo=>o.ah==0)).getD l.length
theorem La{l:List Ob}{k:Nat}(h:k<l.length)(h0:l[k].ah=0)(hb:∀(j:Nat)o,j<k->l[j]? =some o->o.ah≠0):oJ l=k:=by
 have:l.findIdx? (λo=>o.ah==0)=some k:=by
  rw[abN];exact⟨h,by simpa using h0,λj hj=>by simpa using hb j _ hj (wy om)⟩
 rw[oJ,this];rfl
theorem xY{l:List Ob}(hb:∀(j:Nat)o,j<l.length->l[j]? =some o->o.ah≠0):oJ l=l.length:=by
 have:l.findIdx? (λo=>o.ah==0)=none:=by rw[acv];intro o ho;obtain⟨i,hi⟩:=aak ho;simpa using hb i o (Lw.1 hi).1 hi
 rw[oJ,this];rfl
def iH(l:List Ob)(o:Ob):List Ob×Int×Int:=if oJ l>=40 then([],0,15)else(fC l (oJ l) o,oJ l,0)
theorem DY(l:List Ob)(hl:l.length<=4194304)(o:Ob):body prog c27 [fX l,o.cv] [] (λr m=>cH m r (.bG [K9 (iH l o).1,cK (iH l o).2.1,cK (iH l o).2.2])):=by
 refine ar (λk=>k<=l.length/\∀(j:Nat)o,j<k->l[j]? =some o->o.ah≠0) [0,3] (λk=>[(7,al .i64 (k:Nat))]) (λ_=>[.var (o.enc.map .ai)]) (λk=>l.length-k) 0 ⟨WG _,λj o h=>absurd h (abE j)⟩ ?_ (λk hk=>?_)
 .refine View.o1 1 [0] [] ?_
  .exact .pm rfl rfl rfl
 .obtain⟨dK,AR⟩:=hk;have dK:k<=l.length:=dK;have gu:∀(e:oJ l=k),(k>=40->iH l o=([],0,15))/\(¬k>=40->iH l o=(fC l k o,(k:Int),0)):=λe=>
   ⟨λh=>by rw[iH,e,if_pos h],λh=>by rw[iH,e,if_neg h]⟩
  refine am (λh=>?_) (λh=>?_)
  .have ax:k<l.length:=by have h:(k:Int)<((l.map Ob.enc).length:Int):=h;rw[O9]at h;omega
   have hi:=wy ax;have hg:cm (l.map Ob.enc) (k:Nat)=some (l[k].enc):=by rw[aU,Qu,hi];rfl
   have vK:=La (l:=l) ax;generalize l[k]=x at hi hg vK;have hg:cm (l.map Ob.enc) (k:Nat)=some [.val (.int .i64 x.ah),.sl 1 x.data,.sl 2 x.ag,.val (.string x.target),.val (.int .i64 x.aG),x.aj,.val (.int .i64 x.aQ),.val (.int .i64 x.ak),.val (.int .i64 x.up)]:=hg;refine af hg ?_;refine bF (λhn=>?_) (λh0=>?_)
   .refine⟨k+1,⟨ax,λj y hj hy=>?_⟩,(show l.length-(k+1)<l.length-k by omega),View.o 1 [0] [] ?_ ?_⟩
    .rcases aax j k with h5|h5
     .exact AR j y h5 hy
     .have:j=k:=om;subst this;rw[hi]at hy;cases hy;exact hn
    .repeat(first|exact .nil|refine .aH ?_|refine .put (.aN (br om).symm) ?_|refine .eq rfl ?_)
    .exact .pm rfl rfl rfl
   .obtain⟨f1,f2⟩:=gu (vK h0 AR);refine am (λh=>?_) (λh=>?_)
    .rw[f1 (by have h:(k:Int)>=40:=h;omega)]
     exact jV (.one (.bt 9)) (dE.self rfl)
    .rw[f2 (by have h:¬(k:Int)>=40:=h;omega)]
     refine fw l hl k dK o ?_;exact jV (dE.self rfl) (dE.self rfl)
  .have ef:k=l.length:=by have h:¬(k:Int)<((l.map Ob.enc).length:Int):=h;rw[O9]at h;omega
   obtain⟨f1,f2⟩:=gu (by rw[ef];exact xY λj o hj ho=>AR j o om ho)
   refine am (λh=>?_) (λh=>?_)
   .rw[f1 (by have h:(k:Int)>=40:=h;omega)]
    exact jV (.one (.bt 9)) (dE.self rfl)
   .rw[f2 (by have h:¬(k:Int)>=40:=h;omega)]
    refine fw l hl k dK o ?_;exact jV (dE.self rfl) (dE.self rfl)
theorem Lb(l:List Ob)(hl:l.length<=4194304)(o:Ob){m:Mem}{K:CV->Mem->Prop}(h:K (.bG [K9 (iH l o).1,cK (iH l o).2.1,cK (iH l o).2.2]) m):ap prog 27 [fX l,o.cv] m K:=
 aR (aP func27 l27 (DY l hl o)) (by simp[fX,Ob.cv,CV.cW,CC.cW,RV.cW]) λr m1 hf=>⟨_,hf,h⟩
theorem Oy(l:List Ob)(k ah:Int):body prog c58 [fX l,al .i64 k,al .i64 ah] [] (λr m=>r=aq (gw l k ah)):=by
 refine am (λh0=>?_) (λh0=>?_)
 .obtain⟨n,rfl⟩:∃n:Nat,k=n:=⟨k.toNat,om⟩;refine am (λh=>?_) (λh=>?_)
  .have ax:n<l.length:=by have h:(n:Int)<((l.map Ob.enc).length:Int):=h;rw[O9]at h;omega
   have hi:=wy ax;have hS:gw l (n:Int) ah=(l[n].ah !=0&&(ah==0||l[n].ah==ah)):=by simp[gw,ax]
   have hg:cm (l.map Ob.enc) (n:Nat)=some (l[n].enc):=by rw[aU,Qu,hi];rfl
   generalize l[n]=x at hS hg;have hg:cm (l.map Ob.enc) (n:Nat)=some [.val (.int .i64 x.ah),.sl 1 x.data,.sl 2 x.ag,.val (.string x.target),.val (.int .i64 x.aG),x.aj,.val (.int .i64 x.aQ),.val (.int .i64 x.ak),.val (.int .i64 x.up)]:=hg;refine af hg ?_;refine aA (λh1=>?_) (λh1=>?_)
   .refine aA (λh2=>?_) (λh2=>?_)
    .show aq _=aq _;rw[hS,h1,h2];rfl
    .refine af hg ?_;show aq _=aq _;rw[hS,h1,h2];rfl
   .show aq _=aq _;rw[hS,h1];rfl
  .have ef:¬n<l.length:=by have h:¬(n:Int)<((l.map Ob.enc).length:Int):=h;rw[O9]at h;omega
   have hS:gw l (n:Int) ah=false:=by simp[gw,ef]
   show aq _=aq _;rw[hS]
 .have hS:gw l k ah=false:=by have:decide (k>=0)=false:=decide_eq_false h0;simp[gw,this]
  show aq _=aq _;rw[hS]
theorem Gz(l:List Ob)(k ah:Int){m:Mem}{K:CV->Mem->Prop}(h:K (aq (gw l k ah)) m):ap prog 58 [fX l,al .i64 k,al .i64 ah] m K:=
 bu func58 l58 rfl (aav rfl) (Oy l k ah) rfl rfl h
theorem eZ{l:List Ob}{k:Nat}(h:k<l.length):cm (l.map Ob.enc) (k:Nat)=some [.val (.int .i64 l[k].ah),.sl 1 l[k].data,.sl 2 l[k].ag,.val (.string l[k].target),.val (.int .i64 l[k].aG),l[k].aj,.val (.int .i64 l[k].aQ),.val (.int .i64 l[k].ak),.val (.int .i64 l[k].up)]:=by rw[aU,Qu,wy h];rfl
theorem Oz{l:List Ob}{k c:Int}(hc:c≠0)(h:gw l k c=true):∃n:Nat,k=n/\∃hn:n<l.length,l[n].ah=c:=by
 unfold gw at h;by_cases h0:k>=0
 .obtain⟨n,rfl⟩:∃n:Nat,k=n:=⟨k.toNat,om⟩;by_cases hn:n<l.length
  .refine⟨n,rfl,hn,?_⟩;simp[hn,hc]at h;exact h.2
  .simp[hn]at h
 .simp[h0]at h
theorem Sf{l:List Ob}{k c:Int}(hc:c≠0)(h:gw l k c=false){n:Nat}(hk:k=n)(hn:n<l.length):l[n].ah≠c:=by subst hk;intro Nw;rw[gw]at h;simp[hn,Nw,hc]at h
theorem xZ{l:List Ob}{k:Int}(h:gw l k 0=true):∃n:Nat,k=n/\n<l.length:=by
 unfold gw at h;by_cases h0:k>=0
 .obtain⟨n,rfl⟩:∃n:Nat,k=n:=⟨k.toNat,om⟩;by_cases hn:n<l.length
  .exact⟨n,rfl,hn⟩
  .simp[hn]at h
 .simp[h0]at h
structure UP(n:Nat)(ah:Int)(ag:List (List Dt)):Prop where
 ex:∃es:List NE,ag=es.map bP/\Gw es/\(∀e,e∈es->0<=e.2/\e.2<(n:Int))/\(ah≠2->es=[])
theorem OA{a b:List NE}(h:a.map bP=b.map bP):a=b:=by
 have hi:∀x y:NE,bP x=bP y->x=y:=λx y h=>by obtain⟨x1,x2⟩:=x;obtain⟨y1,y2⟩:=y;simp only[bP,adL,Dt.val.injEq,Value.string.injEq,Value.int.injEq,true_and,and_true]at h;rw[h.1,h.2]
 induction a generalizing b with
 |nil=>cases b with
  |nil=>rfl
  |cons y r=>simp at h
 |cons x r ih=>cases b with
  |nil=>simp at h
  |cons y s=>
   simp only[ab2,adL]at h;rw[hi x y h.1,ih h.2]
structure Ob.sn(o:Ob):Prop where
 t:True/\∃es:List (ByteArray×Int),o.ag=es.map bP
 e:o.ag.length<=8
structure I8(l:List Ob):Prop where
 len:l.length<=40
 sm:∀o,o∈l->o.sn
 en:∀o,o∈l->UP l.length o.ah o.ag
def kO:List Dt->NE
 | [.val (.string s),.val (.int .i64 n)]=>(s,n)
 |_=>(⟨#[]⟩,0)
theorem ib:∀es:List NE,(es.map bP).map kO=es
 | []=>rfl
 |e::r=>by show(kO (bP e))::((r.map bP).map kO)=_;rw[ib r];rfl
theorem GA(l:List Ob)(hg:I8 l)(dir:Int)(name:ByteArray):body prog c61 [fX l,al .i64 dir,dM name] [] (λr m=>∃n,r=al .i64 n/\∀(k:Nat)(es:List NE),dir=(k:Int)->(∃hk:k<l.length,l[k].ah=2/\l[k].ag=es.map bP)->oI es name n):=by
 refine Gz l dir 2 ?_;by_cases hI:gw l dir 2=true
 .rw[hI];obtain⟨n,rfl,hn,hk⟩:=Oz (by decide) hI
  refine af (eZ hn) ?_;have qy:=hg.sm _ (aaR hn);have uf:∀(k:Nat)(fk:List NE),((n:Nat):Int)=(k:Int)->(∃hk:k<l.length,l[k].ah=2/\l[k].ag=fk.map bP)->l[n].ag=fk.map bP:=λk fk e⟨hk,_,h⟩=>by have:n=k:=om;subst this;exact h
  generalize l[n]=o at qy uf;obtain⟨ah,data,ag,target,aG,aj,aQ,ak,up⟩:=o;obtain⟨es,rfl⟩:∃es:List (ByteArray×Int),ag=es.map bP:=qy.t.2;have hlen:es.length<=8:=by have:=qy.e;simpa using this
  have uf:∀(k:Nat)(fk:List NE),((n:Nat):Int)=(k:Int)->(∃hk:k<l.length,l[k].ah=2/\l[k].ag=fk.map bP)->fk=es:=λk fk e h=>(OA (uf k fk e h)).symm
  refine ar (λk=>k<=es.length/\∀(j:Nat)e,j<k->es[j]? =some e->e.1.toList≠name.toList) [2,17,18] (λk=>[(19,al .i64 (k:Nat))]) (λ_=>[]) (λk=>es.length-k) 0 ⟨WG _,λj e h=>absurd h (abE j)⟩ ?_ (λk hk=>?_)
  .refine View.o1 0 [] [] (.nil _)
  obtain⟨hk,AR⟩:=hk;have hk:k<=es.length:=hk;refine am (λh=>?_) (λh=>?_)
  .have ax:k<es.length:=by have h:(k:Int)<((es.map bP).length:Int):=h;rw[O9]at h;omega
   refine af (ti ax) ?_;refine aA (λheq=>?_) (λheq=>?_)
   .refine⟨_,rfl,λk' fk e h=>?_⟩
    rw[uf k' fk e h];exact .inl ⟨es[k],aaR ax,by simpa using heq,rfl⟩
   .refine⟨k+1,⟨ax,λj e hj he=>?_⟩,(show es.length-(k+1)<es.length-k by omega),View.o 1 [] [] ?_ (.nil _)⟩
    .rcases aax j k with h3|h3
     .exact AR j e h3 he
     .have:j=k:=om;subst this;rw[wy ax]at he;cases he;simpa using heq
    repeat(first|exact .nil|refine .aH ?_|refine .put (.aN (br om).symm) ?_|refine .eq rfl ?_)
  .have ef:¬k<es.length:=by have h:¬(k:Int)<((es.map bP).length:Int):=h;rw[O9]at h;omega
   refine⟨_,rfl,λk' fk e h=>?_⟩
   rw[uf k' fk e h];refine .inr ⟨rfl,λe he=>?_⟩
   obtain⟨j,hj⟩:=aak he;exact AR j e (by have:=(Lw.1 hj).1;omega) hj
 .rw[acL]at hI;rw[hI];exact⟨_,rfl,λk es e⟨hk,h2,_⟩=>absurd h2 (Sf (by decide) hI e hk)⟩
theorem OB(l:List Ob)(hg:I8 l)(dir:Int)(name:ByteArray){m:Mem}{K:CV->Mem->Prop}(h:∀n,(∀(k:Nat)(es:List NE),dir=(k:Int)->(∃hk:k<l.length,l[k].ah=2/\l[k].ag=es.map bP)->oI es name n)->K (al .i64 n) m):ap prog 61 [fX l,al .i64 dir,dM name] m K:=by
 refine aR (K0:=λr _=>∃n,r=al .i64 n/\∀(k:Nat)(es:List NE),dir=(k:Int)->(∃hk:k<l.length,l[k].ah=2/\l[k].ag=es.map bP)->oI es name n) (aP func61 l61 (GA l hg dir name)) (by simp[dM,al,fX,CV.cW,CC.cW,RV.cW]) λr m1 hr=>?_
 obtain⟨b,rfl,hb⟩:=hr;exact⟨_,cH.self rfl,h b hb⟩
def B8(l:List Ob)(n p:Nat)(name:ByteArray):List Ob:=match l[n]? with
 |none=>l
 |some o=>match (l.set n {o with ag:=(fW (name,(p:Int)) (o.ag.map kO)).map bP})[p]? with
  |none=>l
  |some q=>(l.set n {o with ag:=(fW (name,(p:Int)) (o.ag.map kO)).map bP}).set p {q with ak:=IntKind.i64.wrap (q.ak+1),up:=if q.ah=2 then(n:Int)else q.up}
def nN(b:Bool)(o:Ob)(y:List Ob)(name:ByteArray):List Ob×Int:=
 if o.ah≠2 then([],11)else if o.ak=0 then([],6)else if b=false then([],7)else if eY (o.ag.map kO) name>=0 then([],7)else if o.ag.length>=8 then([],15)else(y,0)
def jg(b:Bool)(l:List Ob)(dir:Int)(name:ByteArray)(obj:Int):List Ob×Int:=
 if gw l dir 0=true then(if gw l obj 0=true then(match l[dir.toNat]? with
  |none=>([],6)
  |some o=>nN b o (B8 l dir.toNat obj.toNat name) name)else([],6))else([],6)
theorem GC{l:List Ob}{n p:Nat}(hI:gw l n 0=true)(zt:gw l p 0=true)(hn:n<l.length)(name:ByteArray)(b:Bool):jg b l n name p=nN b l[n] (B8 l n p name) name:=by rw[jg,if_pos hI,if_pos zt,aal,aal,wy hn]
theorem Sg{l:List Ob}{n p:Nat}(hn:n<l.length){name:ByteArray}{l1:List Ob}(h:l.set n {l[n]with ag:=(fW (name,(p:Int)) (l[n].ag.map kO)).map bP}=l1)(hp:p<l1.length):
  B8 l n p name=l1.set p {l1[p]with ak:=IntKind.i64.wrap (l1[p].ak+1),up:=if l1[p].ah=2 then(n:Int)else l1[p].up}:=by
 subst h;rw[B8,wy hn];simp only[];rw[wy hp]
theorem DZ(l:List Ob)(hg:I8 l)(dir:Int)(name:ByteArray)(nm:Bool->Prop)(b0:Bool)(vg:nm b0)(hN:∀{m:Mem}{K:CV->Mem->Prop},(∀b,nm b->K (aq b) m)->ap prog 60 [dM name] m K)(obj:Int):body prog c28 [fX l,al .i64 dir,dM name,al .i64 obj] []
  (λr m=>∃y e,(∃b,nm b/\jg b l dir name obj=(y,e))/\cH m r (Ox y e)):=by
 refine Gz l dir 0 ?_;by_cases hI:gw l dir 0=true
 .rw[hI];obtain⟨n,rfl,hn⟩:=xZ hI;refine Gz l obj 0 ?_;by_cases zt:gw l obj 0=true
  .rw[zt];obtain⟨p,rfl,hp⟩:=xZ zt;have pK:=eZ hn;refine af pK ?_;have qy:=hg.sm _ (aaR hn);have hR:=GC hI zt hn name;have hS:=λl1(h:l.set n {l[n]with ag:=(fW (name,(p:Int)) (l[n].ag.map kO)).map bP}=l1)hp=>Sg (p:=p) (name:=name) hn h hp
   have l4:=hg.en _ (aaR hn);have NC:∀f,(∀(k:Nat)(es:List NE),((n:Nat):Int)=(k:Int)->(∃hk:k<l.length,l[k].ah=2/\l[k].ag=es.map bP)->oI es name f)->l[n].ah=2->∀es:List NE,l[n].ag=es.map bP->oI es name f:=λf h hk es he=>h n es rfl ⟨hn,hk,he⟩
   generalize l[n]=o at qy pK hR hS l4 NC;obtain⟨ah,data,ag,target,aG,aj,aQ,ak,up⟩:=o;obtain⟨es,vR,wu,D0,_⟩:=l4.ex;have vR:ag=es.map bP:=vR;subst vR;have hR:∀b,jg b l n name p=nN b ⟨ah,data,es.map bP,target,aG,aj,aQ,ak,up⟩ (B8 l n p name) name:=hR;have hS:∀l1:List Ob,l.set n ⟨ah,data,(fW (name,(p:Int)) ((es.map bP).map kO)).map bP,target,aG,aj,aQ,ak,up⟩=l1->∀hp:p<l1.length,B8 l n p name=l1.set p {l1[p]with ak:=IntKind.i64.wrap (l1[p].ak+1),up:=if l1[p].ah=2 then(n:Int)else l1[p].up}:=hS
   rw[ib]at hS;have hlen:es.length<=8:=by have:=qy.e;simpa using this
   refine bF (λh=>?_) (λlS=>?_)
   .exact⟨[],11,⟨b0,vg,by rw[hR,nN,if_pos (show ah≠2 from h)]⟩,gC (.one (.bt 9))⟩
   have lS:ah=2:=by simpa using lS
   refine af pK ?_;refine ba (λh=>?_) (λMX=>?_)
   .exact⟨[],6,⟨b0,vg,by rw[hR,nN,if_neg (show ¬ah≠2 from λx=>x lS),if_pos (show ak=0 from h)]⟩,gC (.one (.bt 9))⟩
   have MX:¬ak=0:=MX;refine hN λb hb=>?_
   cases b with
   |false=>exact⟨[],7,⟨false,hb,by rw[hR,nN,if_neg (show ¬ah≠2 from λx=>x lS),if_neg MX,if_pos rfl]⟩,gC (.one (.bt 9))⟩
   |true=>
    refine OB l hg n name λf hf=>?_
    refine am (λh=>?_) (λhf0=>?_)
    .exact⟨[],7,⟨true,hb,by rw[hR,nN,if_neg (show ¬ah≠2 from λx=>x lS),if_neg MX,if_neg aD,if_pos (show eY ((es.map bP).map kO) name>=0 by rw[ib,<-mX wu (NC f hf lS es rfl) (gS es name)];exact h)]⟩,gC (.one (.bt 9))⟩
    have hf0:¬f>=0:=hf0;have hfS:¬eY ((es.map bP).map kO) name>=0:=by rw[ib,<-mX wu (NC f hf lS es rfl) (gS es name)];exact hf0
    have fG:∀e,e∈es->e.1.toList≠name.toList:=by
     rcases NC f hf lS es rfl with⟨e,he,_,h2⟩|⟨_,h2⟩
     .have:=(D0 e he).1;omega
     .exact h2
    refine af pK ?_;refine am (λh=>?_) (λh8=>?_)
    .exact⟨[],15,⟨true,hb,by rw[hR,nN,if_neg (show ¬ah≠2 from λx=>x lS),if_neg MX,if_neg aD,if_neg hfS,if_pos (show(es.map bP).length>=8 by have h:((es.map bP).length:Int)>=8:=h;omega)]⟩,gC (.one (.bt 9))⟩
    have h8:es.length<8:=by have h:¬(((es.map bP).length:Int)>=8):=h8;rw[O9]at h;omega
    have hR0:jg true l n name p=(B8 l n p name,0):=by rw[hR,nN,if_neg (show ¬ah≠2 from λx=>x lS),if_neg MX,if_neg aD,if_neg hfS,if_neg (show ¬(es.map bP).length>=8 by rw[O9];omega)]
    refine af pK ?_;refine af pK ?_;have after:∀dz:List (ByteArray×Int),dz=fW (name,(p:Int)) es->∃l1,fC l n ⟨ah,data,dz.map bP,target,aG,aj,aQ,ak,up⟩=l1/\l1.length<=4194304/\∃I9:p<l1.length,
      jg true l n name p=(fC l1 p {l1[p]with ak:=IntKind.i64.wrap (l1[p].ak+1),up:=if l1[p].ah=2 then(n:Int)else l1[p].up},0):=by
     intro dz x4;have hw:fC l n ⟨ah,data,dz.map bP,target,aG,aj,aQ,ak,up⟩=l.set n ⟨ah,data,dz.map bP,target,aG,aj,aQ,ak,up⟩:=by rw[fC,if_neg om];simp
     have I9:p<(l.set n ⟨ah,data,dz.map bP,target,aG,aj,aQ,ak,up⟩).length:=by simpa using hp
     refine⟨_,hw,by rw[abt];have:=hg.len;omega,I9,?_⟩
     have hwe:∀(l1:List Ob)(q:Ob),p<l1.length->fC l1 p q=l1.set p q:=λl1 q h=>by rw[fC,if_neg om,aal]
     rw[hR0,hS _ (by rw[<-x4]) I9,hwe _ _ I9]
    refine ar (λ(a:ZL)=>a.k<=es.length/\jK es (name,(p:Int)) a.k a.d a.dz) [0,1,2,3,10,63,64] (λa=>[(65,al .i64 (a.k:Nat)),(11,aq a.d)])
     (λa=>match a.dz with
      | []=>[.var [.ai (.val (.int .i64 ah)),.ai (.sl 1 data),.bt,.ai (.val (.string target)),.ai (.val (.int .i64 aG)),.ai (aj),.ai (.val (.int .i64 aQ)),.ai (.val (.int .i64 ak)),.ai (.val (.int .i64 up))]]
      |x::r=>[.var [.ai (.val (.int .i64 ah)),.ai (.sl 1 data),.row 1 2 0 none,.ai (.val (.string target)),.ai (.val (.int .i64 aG)),.ai (aj),.ai (.val (.int .i64 aQ)),.ai (.val (.int .i64 ak)),.ai (.val (.int .i64 up))],.row 2 (aa ((x::r).map bP))])
     (λa=>es.length-a.k) ⟨0,false,[]⟩ ⟨WG _,jK.adN _ _⟩ ?_ (λa ha=>?_)
    .refine View.o1 1 [0] [] ?_
     .exact .pm rfl rfl rfl
    obtain⟨k,d,dz⟩:=a;obtain⟨Zn,ZN⟩:=ha;have Zn:k<=es.length:=Zn;have x4:jK es (name,(p:Int)) k d dz:=ZN;have ZN:dz.length=k+d.toNat:=x4.len Zn;have wI:d.toNat<=1:=by cases d<;>simp
    cases dz with
    |nil=>
     refine am (λh=>?_) (λh=>?_)
     .have ax:k<es.length:=by have h:(k:Int)<((es.map bP).length:Int):=h;rw[O9]at h;omega
      refine af (ti ax) ?_;cases d with
      |true=>
       simp at ZN
      |false=>
       refine aA (λQ9=>?_) (λQ9=>?_)
       .refine⟨by simp[bA,aa]<;>omega,?_⟩
        refine⟨by simp[bA,aa]<;>omega,?_⟩
        refine⟨⟨k+1,true,([(name,(p:Int)),es[k]])⟩,⟨ax,x4.Af ax Q9⟩,(show es.length-(k+1)<es.length-k by omega),View.o2 6 [0,5] [] ?_⟩
        .exact .pe rfl rfl rfl (.pt rfl rfl (.bn (by simp[bA,aa,bP])) (.nil _))
       .refine⟨by simp[bA,aa]<;>omega,?_⟩
        refine⟨⟨k+1,false,([es[k]])⟩,⟨ax,x4.skip ax Q9⟩,(show es.length-(k+1)<es.length-k by omega),View.o2 4 [0,3] [] ?_⟩
        .exact .pe rfl rfl rfl (.pt rfl rfl (.bn (by simp[bA,aa,bP])) (.nil _))
     .have nn:k=es.length:=by have h:¬(k:Int)<((es.map bP).length:Int):=h;rw[O9]at h;omega
      cases d with
      |true=>simp at ZN
      |false=>
       refine⟨by simp[bA,aa]<;>omega,?_⟩
       obtain⟨l1,hw,rH,I9,x5⟩:=after ([(name,(p:Int))]) (by have h:=x4;rw[nn]at h;exact h.eq)
       refine ek (iQ:=[fX l,al .i64 (n:Nat),(Ob.mk ah data (([(name,(p:Int))]).map bP) target aG aj aQ ak up).cv]) (m':=[.aE,.aE,.aE]) (View.o 3 [0,1,2] [2]
        (.eq rfl (.eq rfl (.put (ld.agg (.cons (.aN (.ai _)) (.cons (.aN (.ai _)) (.cons (.dG (V6 (Z:=λk=>bc [2] k=true) rfl rfl (by simp[bA,aa,bP]))) (.cons (.aN (.ai _)) (.cons (.aN (.ai _)) (.cons (.aN (.ai _)) (.cons (.aN (.ai _)) (.cons (.aN (.ai _)) (.cons (.aN (.ai _)) .nil)))))))))) .nil)))
        (.aE (.aE (.aE (.nil _))))) ?_
       refine fw l (by have:=hg.len;omega) n om _ ?_
       rw[hw];refine af (eZ I9) ?_;refine ba (λh=>?_) (λh=>?_)
       .refine fw l1 rH p om {l1[p]with ak:=IntKind.i64.wrap (l1[p].ak+1),up:=n} ?_
        exact⟨_,0,⟨true,hb,by rw[x5,if_pos h]⟩,gC (dE.self rfl)⟩
       .refine fw l1 rH p om {l1[p]with ak:=IntKind.i64.wrap (l1[p].ak+1)} ?_
        exact⟨_,0,⟨true,hb,by rw[x5,if_neg h]⟩,gC (dE.self rfl)⟩
    |cons x r=>
     have hr:r.length<=9:=by simp at ZN;omega
     refine am (λh=>?_) (λh=>?_)
     .have ax:k<es.length:=by have h:(k:Int)<((es.map bP).length:Int):=h;rw[O9]at h;omega
      refine af (ti ax) ?_;cases d with
      |true=>
       refine⟨by simp[bA,aa]<;>omega,?_⟩
       refine⟨⟨k+1,true,((x::r)++ [es[k]])⟩,⟨ax,x4.bR ax⟩,(show es.length-(k+1)<es.length-k by omega),View.o2 5 [0,4] [] ?_⟩
       .exact .pe rfl rfl rfl (.pt rfl rfl (.bn (by simp[bA,aa,bP])) (.nil _))
      |false=>
       refine aA (λQ9=>?_) (λQ9=>?_)
       .refine⟨by simp[bA,aa]<;>omega,?_⟩
        refine⟨by simp[bA,aa]<;>omega,?_⟩
        refine⟨⟨k+1,true,((x::r)++ [(name,(p:Int)),es[k]])⟩,⟨ax,x4.Af ax Q9⟩,(show es.length-(k+1)<es.length-k by omega),View.o2 7 [0,6] [] ?_⟩
        .exact .pe rfl rfl rfl (.pt rfl rfl (.bn (by simp[bA,aa,bP])) (.nil _))
       .refine⟨by simp[bA,aa]<;>omega,?_⟩
        refine⟨⟨k+1,false,((x::r)++ [es[k]])⟩,⟨ax,x4.skip ax Q9⟩,(show es.length-(k+1)<es.length-k by omega),View.o2 5 [0,4] [] ?_⟩
        .exact .pe rfl rfl rfl (.pt rfl rfl (.bn (by simp[bA,aa,bP])) (.nil _))
     .have nn:k=es.length:=by have h:¬(k:Int)<((es.map bP).length:Int):=h;rw[O9]at h;omega
      cases d with
      |true=>
       obtain⟨l1,hw,rH,I9,x5⟩:=after ((x::r)) (by have h:=x4;rw[nn]at h;have:=h.eq;simpa using this)
       refine ek (iQ:=[fX l,al .i64 (n:Nat),(Ob.mk ah data (((x::r)).map bP) target aG aj aQ ak up).cv]) (m':=[.aE,.aE]) (View.o 2 [0,1] [1]
        (.eq rfl (.eq rfl (.put (ld.agg (.cons (.aN (.ai _)) (.cons (.aN (.ai _)) (.cons (.dG (V6 (Z:=λk=>bc [1] k=true) rfl rfl (by simp[bA,aa,bP]))) (.cons (.aN (.ai _)) (.cons (.aN (.ai _)) (.cons (.aN (.ai _)) (.cons (.aN (.ai _)) (.cons (.aN (.ai _)) (.cons (.aN (.ai _)) .nil)))))))))) .nil)))
        (.aE (.aE (.nil _)))) ?_
       refine fw l (by have:=hg.len;omega) n om _ ?_
       rw[hw];refine af (eZ I9) ?_;refine ba (λh=>?_) (λh=>?_)
       .refine fw l1 rH p om {l1[p]with ak:=IntKind.i64.wrap (l1[p].ak+1),up:=n} ?_
        exact⟨_,0,⟨true,hb,by rw[x5,if_pos h]⟩,gC (dE.self rfl)⟩
       .refine fw l1 rH p om {l1[p]with ak:=IntKind.i64.wrap (l1[p].ak+1)} ?_
        exact⟨_,0,⟨true,hb,by rw[x5,if_neg h]⟩,gC (dE.self rfl)⟩
      |false=>
       refine⟨by simp[bA,aa]<;>omega,?_⟩
       obtain⟨l1,hw,rH,I9,x5⟩:=after (((x::r)++ [(name,(p:Int))])) (by have h:=x4;rw[nn]at h;exact h.eq)
       refine ek (iQ:=[fX l,al .i64 (n:Nat),(Ob.mk ah data ((((x::r)++ [(name,(p:Int))])).map bP) target aG aj aQ ak up).cv]) (m':=[.aE,.aE,.aE,.aE]) (View.o 4 [0,1,2,3] [3]
        (.eq rfl (.eq rfl (.put (ld.agg (.cons (.aN (.ai _)) (.cons (.aN (.ai _)) (.cons (.dG (V6 (Z:=λk=>bc [3] k=true) rfl rfl (by simp[bA,aa,bP]))) (.cons (.aN (.ai _)) (.cons (.aN (.ai _)) (.cons (.aN (.ai _)) (.cons (.aN (.ai _)) (.cons (.aN (.ai _)) (.cons (.aN (.ai _)) .nil)))))))))) .nil)))
        (.aE (.aE (.aE (.aE (.nil _)))))) ?_
       refine fw l (by have:=hg.len;omega) n om _ ?_
       rw[hw];refine af (eZ I9) ?_;refine ba (λh=>?_) (λh=>?_)
       .refine fw l1 rH p om {l1[p]with ak:=IntKind.i64.wrap (l1[p].ak+1),up:=n} ?_
        exact⟨_,0,⟨true,hb,by rw[x5,if_pos h]⟩,gC (dE.self rfl)⟩
       .refine fw l1 rH p om {l1[p]with ak:=IntKind.i64.wrap (l1[p].ak+1)} ?_
        exact⟨_,0,⟨true,hb,by rw[x5,if_neg h]⟩,gC (dE.self rfl)⟩
  .rw[acL]at zt;rw[zt];exact⟨[],6,⟨b0,vg,by rw[jg,if_pos hI,if_neg (by rw[zt];simp)]⟩,gC (.one (.bt 9))⟩
 .rw[acL]at hI;rw[hI];exact⟨[],6,⟨b0,vg,by rw[jg,if_neg (by rw[hI];simp)]⟩,gC (.one (.bt 9))⟩
def t6(b:List Int):Prop:=∀x,x∈b->0<=x/\x<=255
theorem bU(b:List Int)(hb:t6 b)(n:Int){m:Mem}{K:CV->Mem->Prop}(id:Nat)(hm:dh m id=some (.var [.ai (.sl 1 (eX b))]))(h:∀(x:Nat)(b':List Int),t6 b'->(1<=n->(x:Int)<n)->x<=255->(n<1->x=0)->K (al .i64 (x:Nat)) (aX m id (.var [.ai (.sl 1 (eX b'))]))):ap prog 26 [.rv (.one (.ptr id 0)),al .i64 n] m K:=by
 refine Sd b n id hm ?_;cases b with
 |nil=>exact h 0 [] hb (λhn=>by show(0:Int)<n;omega) om (λ_=>rfl)
 |cons x r=>
  by_cases hn:n<1
  .have e:mV (x::r) n=(0,x::r):=by rw[mV,if_pos hn]
   rw[e];exact h 0 (x::r) hb (λhn=>by show(0:Int)<n;omega) om (λ_=>rfl)
  .have e:mV (x::r) n=((IntKind.i64.wrap x).tmod n,r):=by rw[mV,if_neg hn]
   obtain⟨h1,h2⟩:=hb x aD;obtain⟨k,rfl⟩:∃k:Nat,x=k:=⟨x.toNat,om⟩;obtain⟨d,rfl⟩:∃d:Nat,n=d:=⟨n.toNat,om⟩;rw[lW om]at e;have e2:((k:Int)).tmod (d:Int)=((k%d:Nat):Int):=(Int.ofNat_tmod k d).symm;rw[e2]at e;rw[e];have ax:k%d<d:=Nat.mod_lt _ om;exact h (k%d) r (λy hy=>hb y (by simp[hy])) (λ_=>om) (by have:=Nat.mod_le k d;omega) (λh=>absurd h hn)
def c9:LF:=Cq prog Tryz.f9 [[4,1,0,2,0,2],[5,0],[7],[7,2,0],[7,3,0],[7,4,0],[7,4,0,1,0,2,0,1]] [[(d9 5 0 (.cons 8 none (.cons 9 none (.cons 13 none (.cons 5 (some []) (.cons 6 none (.cons 7 none (.cons 10 (some [7,6]) (.cons 11 none (.cons 12 none (.cons 14 (some []) (d9 5 15 .nil))))))))))))],[(d9 4 0 (.cons 4 (some [1]) (.cons 5 none (.cons 6 (some [1]) (.cons 7 (some []) (.cons 8 none (.cons 9 (some []) .nil)))))))],[(d9 6 0 (.cons 8 none (.zB (.cons 6 (some [1]) (.zB (.cons 7 (some [5,4,1]) (.cons 9 (some [1]) (d9 3 10 (.cons 13 (some []) (d9 7 14 .nil))))) (.cons 9 (some [1]) (.cons 7 (some [5,4,1]) (d9 3 10 (.cons 13 (some []) (d9 7 14 .nil))))))) (.cons 7 (some [5,4,1]) (.cons 6 (some [1]) (.cons 9 (some [1]) (d9 3 10 (.cons 13 (some []) (d9 7 14 .nil)))))))))]]
theorem l9:bs prog Tryz.f9=some c9.er:=by kernel_rfl
def oK:LC->LC
 | .seq a _=>a
 |x=>x
def bi:LC->LC
 | .seq _ b=>b
 |x=>x
def l5:LC->LC
 | .q9 a=>a
 |x=>x
def V8:LC:=bi (bi (bi (bi (bi c9.code))))
def ZO:LC:=l5 (bi (bi V8))
def ZP:LC:=bi (bi ZO)
def V9:LC:=bi ZP
def Wa:LC:=bi V9
def adP:LC:=bi Wa
structure aT where
 obj:Int
 di:Int
def aT.enc(o:aT):List Dt:=[.val (.int .i64 o.obj),.val (.int .i64 o.di)]
structure aL where
 aF:Bool
 fenced:Bool
 code:Int
 an:List dJ
def aL.enc(p:aL):List Dt:=[.val (.bool p.aF),.val (.bool p.fenced),.val (.int .i64 p.code),gL p.an]
def de(l:List aT):Dt:= .sl 2 (l.map aT.enc)
def dZ(l:List aL):Dt:= .sl 4 (l.map aL.enc)
def cA(l:List Obj)(op:List aT)(ps:List aL):CV:= .rv (.agg [.ai (cT l),.ai (de op),.ai (dZ ps)])
inductive dy(Y:Nat->Nat)(m:Mem)(Z:Nat->Prop)(p:Option Nat):List CC->List CC->Prop
 |nil:dy Y m Z p [] []
 |cons {c c':CC} {r r':List CC} (h:sZ Y m Z p c c') (hr:dy Y m Z p r r'):dy Y m Z p (c::r) (c'::r')
theorem dy.get{Y:Nat->Nat}{m:Mem}{Z:Nat->Prop}{p:Option Nat}{cs fg:List CC}(h:dy Y m Z p cs fg):∀(i:Nat)c',fg[i]? =some c'->∃c,cs[i]? =some c/\sZ Y m Z p c c':=by
 induction h with
 |nil=>intro i c' h;simp at h
 |cons h hr ih=>
  intro i c' h2;cases i with
  |zero=>simp at h2;subst h2;exact⟨_,rfl,h⟩
  |succ i=>simpa using ih i c' (by simpa using h2)
theorem dy.var{Y:Nat->Nat}{m:Mem}{Z:Nat->Prop}{id:Nat}{cs fg:List CC}(h:dy Y m Z (some id) cs fg):oC Y m Z id (.var cs) (.var fg):= .var h.get
def z3:List CC:=[.bt,.bt,.bt]
def qD(b:List Int):Bk:= .var [.ai (.sl 1 (eX b))]
theorem fO(b:List Int):qD b≠.aE:=by intro h;cases h
theorem Wb{m:Mem}{Z:Nat->Prop}{p:Option Nat}{has:Bool}{b8 rts:Int}{X:List (List CC)}(hz7:Z 7)(hz4:Z 4)(h7:m[7]? =some (.row 4 X))(hX:X=[[.row 4 1 0 none,.ai (.val (.bool has)),.ai (.val (.int .i64 b8)),.ai (.val (.int .i64 rts))]])(h4:m[4]? =some (.row 1 (aa (eX [109])))):
  cS m Z p (.row 7 4 0 none) (.sl 4 [cy.enc ⟨eX [109],has,b8,rts⟩]):=by
 subst hX;refine cS.row 7 4 0 none _ [cy.enc ⟨eX [109],has,b8,rts⟩] hz7 h7 rfl (λi cs es h1 h2=>?_) (λi cs es j c d h1 h2 h3 Lc=>?_)
 .match i,h1,h2 with
  |0,h1,h2=>cases h1;cases h2;rfl
  |n+1,h1,h2=>simp at h1
 .match i,h1,h2 with
  |0,h1,h2=>
   cases h1;cases h2
   match j,h3,Lc with
   |0,h3,Lc=>cases h3;cases Lc;exact cS.da hz4 h4 0 none
   |1,h3,Lc=>cases h3;cases Lc;exact .ai _
   |2,h3,Lc=>cases h3;cases Lc;exact .ai _
   |3,h3,Lc=>cases h3;cases Lc;exact .ai _
   |n+4,h3,Lc=>simp at h3
  |n+1,h1,h2=>simp at h1
theorem aJ(ds:List (List Dt)):(aa ds).length=ds.length:=by simp[aa]
theorem dk(Y:Nat->Nat)(ds:List (List Dt)):(aa ds).map (λcs=>cs.map (CC.aN Y))=aa ds:=by simp[aa,ade,CC.aN]
theorem Ja{Y:Nat->Nat}{m:Mem}{Z:Nat->Prop}{id:Nat}(l:List aL)(p:aL){c:CC}{X:List (List CC)}(hc:sZ Y m Z (some id) c (.ai (gL p.an)))(hX:X=aa (l.map aL.enc)++ [[.ai (.val (.bool p.aF)),.ai (.val (.bool p.fenced)),.ai (.val (.int .i64 p.code)),c]]):oC Y m Z id (.row 4 X) (.row 4 (aa ((l++ [p]).map aL.enc))):=by
 subst hX;have e:aa ((l++ [p]).map aL.enc)=aa (l.map aL.enc)++ [p.enc.map .ai]:=by simp[aa]
 rw[e];refine .uy (dk Y _) rfl λj c1 c2 h1 h2=>?_
 match j,h1,h2 with
 |0,h1,h2=>cases h1;cases h2;exact .aN (.ai _)
 |1,h1,h2=>cases h1;cases h2;exact .aN (.ai _)
 |2,h1,h2=>cases h1;cases h2;exact .aN (.ai _)
 |3,h1,h2=>cases h1;cases h2;exact hc
 |n+4,h1,h2=>simp at h1
structure ZQ where
 j:Nat
 b:List Int
 sl:List dJ
structure adQ where
 p:Nat
 b:List Int
 ps:List aL
structure Mk where
 O:List Bool
 P:List Bool
def dv(L:List Bool)(i:Nat):Prop:=L[i]? =some true
def vO(l:List Obj)(z:Int)(i:Nat):Prop:=z=i/\∃o,l[i]? =some o/\o.ah≠0
def vP(ops:List aT)(z:Int)(c:Nat):Prop:=z=c/\c<ops.length
def sE(o:Obj)(z:Int):Prop:=∃nm:ByteArray,bP (nm,z)∈o.ag
def sQ(o:Obj)(z:Int):Prop:=∃q,q∈o.aj/\q.has=true/\q.b8=z
structure Step(l:List Obj)(ops:List aT)(E:Nat->Prop)(a b:Mk):Prop where
 lo:b.O.length=a.O.length
 lp:b.P.length=a.P.length
 mo:∀i,dv a.O i->dv b.O i
 mp:∀c,dv a.P c->dv b.P c
 co:∀i o,dv b.O i->¬dv a.O i->¬E i->l[i]? =some o->(∀z n,sE o z->vO l z n->dv b.O n)/\(∀z c,sQ o z->vP ops z c->dv b.P c)
 cp:∀c o,dv b.P c->¬dv a.P c->ops[c]? =some o->∀n,vO l o.obj n->dv b.O n
structure Cl(l:List Obj)(ops:List aT)(RO RP:Nat->Prop):Prop where
 e:∀i o,RO i->l[i]? =some o->∀z n,sE o z->vO l z n->RO n
 q:∀i o,RO i->l[i]? =some o->∀z c,sQ o z->vP ops z c->RP c
 p:∀c o,RP c->ops[c]? =some o->∀n,vO l o.obj n->RO n
def OC(RO RP:Nat->Prop)(a:Mk):Prop:=(∀i,dv a.O i->RO i)/\(∀c,dv a.P c->RP c)
def eB(L:List Bool):Nat:=(L.filter (λb=>!b)).length
def Mk.mu(a:Mk):Nat:=eB a.O+eB a.P
theorem Step.refl{l:List Obj}{ops:List aT}{E:Nat->Prop}(a:Mk):Step l ops E a a:=
 ⟨rfl,rfl,λ_ h=>h,λ_ h=>h,λ_ _ h h2=>absurd h h2,λ_ _ h h2=>absurd h h2⟩
theorem Step.trans{l:List Obj}{ops:List aT}{E:Nat->Prop}{a b c:Mk}(h1:Step l ops E a b)(h2:Step l ops (λ_=>False) b c):Step l ops E a c:=by
 refine⟨h2.lo.trans h1.lo,h2.lp.trans h1.lp,λi h=>h2.mo i (h1.mo i h),λi h=>h2.mp i (h1.mp i h),λi o hi hn hE ho=>?_,λi o hi hn ho n hv=>?_⟩
 .by_cases hb:dv b.O i
  .obtain⟨k1,k2⟩:=h1.co i o hb hn hE ho;exact⟨λz n hz hv=>h2.mo n (k1 z n hz hv),λz c hz hv=>h2.mp c (k2 z c hz hv)⟩
  .exact h2.co i o hi hb (λh=>h) ho
 .by_cases hb:dv b.P i
  .exact h2.mo n (h1.cp i o hb hn ho n hv)
  .exact h2.cp i o hi hb ho n hv
theorem lK:∀(a b:List Bool),b.length=a.length->(∀i,dv a i->dv b i)->eB b<=eB a
 | [],[],_,_=>aai _
 | [],_::_,h,_=>by simp at h
 |_::_,[],h,_=>by simp at h
 |x::a,y::b,h,hm=>by
  have ih:=lK a b (by simpa using h) (λi hi=>by simpa[dv]using hm (i+1) (by simpa[dv]using hi))
  have h0:x=true->y=true:=λhx=>by simpa[dv]using hm 0 (by simp[dv,hx])
  unfold eB at ih|-;cases x<;>cases y<;>simp at h0|-<;>omega
theorem rP:∀(a:List Bool)(n:Nat),a[n]? =some false->eB (a.set n true)+1=eB a
 | [],n,h=>by simp at h
 |x::a,0,h=>by simp at h;subst h;simp[eB]
 |x::a,n+1,h=>by
  have ih:=rP a n (by simpa using h)
  unfold eB at ih|-;cases x<;>simp at ih|-<;>omega
theorem Jb{L:List Bool}{n i:Nat}(h:dv L i):dv (L.set n true) i:=by
 unfold dv at h|-;rw[abU];split
 .rename_i e;subst e;have:=(Lw.1 h).1;simp[this]
 .exact h
theorem tl{L:List Bool}{n:Nat}(h:n<L.length):dv (L.set n true) n:=by unfold dv;simp[h]
theorem l7{L:List Bool}{n i:Nat}(h:dv (L.set n true) i):dv L i\/i=n:=by
 unfold dv at h|-;rw[abU]at h;split at h
 .rename_i e;exact .inr e.symm
 .exact .inl h
structure PO(l:List Obj)(ops:List aT)(z:Int)(a b:Mk):Prop where
 st:Step l ops (λ_=>False) a b
 on:∀n,vO l z n->dv b.O n
 sd:∀RO RP,Cl l ops RO RP->OC RO RP a->(∀n,vO l z n->RO n)->OC RO RP b
structure PP(l:List Obj)(ops:List aT)(z:Int)(a b:Mk):Prop where
 st:Step l ops (λ_=>False) a b
 on:∀c,vP ops z c->dv b.P c
 sd:∀RO RP,Cl l ops RO RP->OC RO RP a->(∀c,vP ops z c->RP c)->OC RO RP b
theorem PO.none{l:List Obj}{ops:List aT}{z:Int}{a:Mk}(h:∀n,vO l z n->dv a.O n):PO l ops z a a:=⟨.refl a,h,λ_ _ _ h _=>h⟩
theorem PP.none{l:List Obj}{ops:List aT}{z:Int}{a:Mk}(h:∀n,vP ops z n->dv a.P n):PP l ops z a a:=⟨.refl a,h,λ_ _ _ h _=>h⟩
structure AS(l:List Obj)(ops:List aT)(n:Nat)(a b:Mk)(nE nQ:Nat)(es:List (ByteArray×Int))(qs:List cy):Prop where
 st:Step l ops (λi=>i=n) a b
 on:dv b.O n
 e:∀j e,j<nE->es[j]? =some e->∀m,vO l e.2 m->dv b.O m
 q:∀j q,j<nQ->qs[j]? =some q->q.has=true->∀c,vP ops q.b8 c->dv b.P c
 sd:∀RO RP,Cl l ops RO RP->OC RO RP a->RO n->OC RO RP b
theorem AS.start{l:List Obj}{ops:List aT}{n:Nat}{a:Mk}(hn:n<a.O.length)(es:List (ByteArray×Int))(qs:List cy):AS l ops n a ⟨a.O.set n true,a.P⟩ 0 0 es qs:=by
 refine⟨⟨aD,rfl,λi h=>Jb h,λi h=>h,λi o h h2 h3=>?_,λ_ _ h h2=>absurd h h2⟩,tl hn,λj e h=>absurd h (abE j),λj e h=>absurd h (abE j),λRO RP _ h hr=>⟨λi hi=>?_,h.2⟩⟩
 .rcases l7 h with h|h
  .exact absurd h h2
  .exact absurd h h3
 .rcases l7 hi with hi|rfl
  .exact h.1 i hi
  .exact hr
theorem AS.ZR{l:List Obj}{ops:List aT}{n:Nat}{a b c:Mk}{j:Nat}{es:List (ByteArray×Int)}{qs:List cy}(h:AS l ops n a b j 0 es qs){e:ByteArray×Int}(he:es[j]? =some e)(hc:PO l ops e.2 b c){o:Obj}(ho:l[n]? =some o)(oh:o.ag=es.map bP):AS l ops n a c (j+1) 0 es qs:=by
 have hse:sE o e.2:=⟨e.1,by rw[oh];exact aer (Vm he)⟩
 refine⟨h.st.trans hc.st,hc.st.mo n h.on,λi x hi hx m hv=>?_,λi x hi=>absurd hi (abE i),λRO RP gF ip hr=>hc.sd RO RP gF (h.sd RO RP gF ip hr) λm hv=>gF.e n o hr ho e.2 m hse hv⟩
 rcases aax i j with sM|sM
 .exact hc.st.mo m (h.e i x sM hx m hv)
 .have:i=j:=om;subst this;rw[he]at hx;cases hx;exact hc.on m hv
theorem AS.ZS{l:List Obj}{ops:List aT}{n:Nat}{a b c:Mk}{k j:Nat}{es:List (ByteArray×Int)}{qs:List cy}(h:AS l ops n a b k j es qs){q:cy}(hq:qs[j]? =some q)(hh:q.has=true)(hc:PP l ops q.b8 b c){o:Obj}(ho:l[n]? =some o)(hqs:o.aj=qs):AS l ops n a c k (j+1) es qs:=by
 have hsq:sQ o q.b8:=⟨q,by rw[hqs];exact Vm hq,hh,rfl⟩
 refine⟨h.st.trans hc.st,hc.st.mo n h.on,λi x hi hx m hv=>hc.st.mo m (h.e i x hi hx m hv),λi x hi hx ZT m hv=>?_,λRO RP gF ip hr=>hc.sd RO RP gF (h.sd RO RP gF ip hr) λm hv=>gF.q n o hr ho q.b8 m hsq hv⟩
 rcases aax i j with sM|sM
 .exact hc.st.mp m (h.q i x sM hx ZT m hv)
 .have:i=j:=om;subst this;rw[hq]at hx;cases hx;exact hc.on m hv
theorem AS.ZU{l:List Obj}{ops:List aT}{n:Nat}{a b:Mk}{k j:Nat}{es:List (ByteArray×Int)}{qs:List cy}(h:AS l ops n a b k j es qs){q:cy}(hq:qs[j]? =some q)(hh:q.has=false):AS l ops n a b k (j+1) es qs:=by
 refine⟨h.st,h.on,h.e,λi x hi hx ZT m hv=>?_,h.sd⟩
 rcases aax i j with sM|sM
 .exact h.q i x sM hx ZT m hv
 .have:i=j:=om;subst this;rw[hq]at hx;cases hx;rw[hh]at ZT;cases ZT
theorem AS.gu{l:List Obj}{ops:List aT}{n:Nat}{a b:Mk}{es:List (ByteArray×Int)}{qs:List cy}(h:AS l ops n a b es.length qs.length es qs){o:Obj}(ho:l[n]? =some o)(hk:o.ah≠0)(oh:o.ag=es.map bP)(hqs:o.aj=qs):PO l ops (n:Int) a b:=by
 refine⟨⟨h.st.lo,h.st.lp,h.st.mo,h.st.mp,λi x hi AE _ hx=>?_,h.st.cp⟩,λm hv=>?_,λRO RP gF ip hr=>h.sd RO RP gF ip (hr n ⟨rfl,o,ho,hk⟩)⟩
 .by_cases ip:i=n
  .subst ip;rw[ho]at hx;cases hx;refine⟨λz m⟨nm,hm⟩hv=>?_,λz c⟨q,hq,hh,hz⟩hv=>?_⟩
   .rw[oh]at hm;obtain⟨e,he,oD⟩:=abl.1 hm;have:e.2=z:=by simp[bP]at oD;exact oD.2
    subst this;obtain⟨j,hj⟩:=aak he;exact h.e j e (Lw.1 hj).1 hj m hv
   .rw[hqs]at hq;obtain⟨j,hj⟩:=aak hq;subst hz;exact h.q j q (Lw.1 hj).1 hj hh c hv
  .exact h.st.co i x hi AE ip hx
 .have:m=n:=by have:=hv.1;omega
  subst this;exact h.on
theorem PP.of{l:List Obj}{ops:List aT}{a b:Mk}{c:Nat}(hc:c<a.P.length){o:aT}(ho:ops[c]? =some o)(h:PO l ops o.obj ⟨a.O,a.P.set c true⟩ b):PP l ops (c:Int) a b:=by
 have wg:Step l ops (λ_=>False) a b:=by
  refine⟨h.st.lo,by have:=h.st.lp;simpa using this,h.st.mo,λi hi=>h.st.mp i (Jb hi),λi x hi AE=>h.st.co i x hi AE,λi x hi AE hx n hv=>?_⟩
  by_cases hic:i=c
  .subst hic;rw[ho]at hx;cases hx;exact h.on n hv
  .exact h.st.cp i x hi (λhs=>(l7 hs).elim AE hic) hx n hv
 refine⟨wg,λd hd=>?_,λRO RP gF ip hr=>?_⟩
 .have:d=c:=by have:=hd.1;omega
  subst this;exact h.st.mp d (tl hc)
 .have hrc:RP c:=hr c ⟨rfl,(Lw.1 ho).1⟩;exact h.sd RO RP gF ⟨ip.1,λi hi=>(l7 hi).elim (ip.2 i) λe=>e▸hrc⟩ λn hv=>gF.p c o hrc ho n hv
def c152:LF:=Cq prog f152 [] []
def c153:LF:=Cq prog f153 [] [[d9 23 0 .nil],[(d9 7 0 (.cons 7 (some []) .nil))],[(d9 13 0 (.cons 13 (some []) .nil))]]
def bE(b:Bool):List Dt:=[.val (.bool b)]
theorem l152:bs prog f152=some c152:=by kernel_rfl
theorem l153:bs prog f153=some c153:=by kernel_rfl
def zS(l:List Obj)(ops:List aT)(a:Mk):Prop:=a.O.length=l.length/\a.P.length=ops.length
theorem oL{L:List Bool}{n:Nat}(h:n<L.length):dh (aa (L.map bE)) n=some [.ai (.val (.bool L[n]))]:=bm bE L h
theorem tm{L:List Bool}{n:Nat}(h:n<L.length):dL (n:Int) (lenOf (aa (L.map bE)).length 0 none)=some n:=bJ (by show n<(aa (L.map bE)).length;rw[aJ,O9];exact h)
theorem GD{L:List Bool}{n:Nat}:aX (aa (L.map bE)) n [CC.ai (.val (.bool true))]=aa ((L.set n true).map bE):=lZ bE L n true
theorem AS.UQ{l:List Obj}{ops:List aT}{n:Nat}{a b:Mk}{k j:Nat}{es:List (ByteArray×Int)}{qs:List cy}(h:AS l ops n a b k j es qs):b.mu<=(⟨a.O.set n true,a.P⟩:Mk).mu:=by
 refine Nat.add_le_add (lK _ _ (by rw[abt];exact h.st.lo) λi hi=>?_) (lK _ _ h.st.lp h.st.mp)
 rcases l7 hi with hi|rfl
 .exact h.st.mo i hi
 .exact h.on
theorem Si{qs:List cy}{k:Nat}(h:k<qs.length):cm (qs.map cy.enc) (k:Nat)=some [.sl 1 qs[k].data,.val (.bool qs[k].has),.val (.int .i64 qs[k].b8),.val (.int .i64 qs[k].rts)]:=by rw[aU,Qu,wy h];rfl
structure StM where
 j:Nat
 b:Mk
end Go.Proofs.YtllkfpggoigbaaaGreatDoor
