/- Part 27 of 43: what the law stands on. -/
import Derived.Test.YtojhmadmlnfpcaaGreatDoorK16
import Derived.Test.YtojhmadmlnfpcaaGreatDoorK18
import Derived.Test.YtojhmadmlnfpcaaGreatDoorK25
import Derived.Test.YtojhmadmlnfpcaaGreatDoorK26
set_option linter.unusedVariables false
set_option linter.unusedSimpArgs false
set_option linter.unnecessarySimpa false
set_option maxRecDepth 100000
set_option maxHeartbeats 64000000
namespace Go.Proofs.YtojhmadmlnfpcaaGreatDoor
open Go.AM Go.ChangeShapes Go.WideShapes Go.ChangeAt Go.RowKit
def c139:LF:= ⟨32,[.tmp 2],(.seq (.ai [qu 2 (.aD (qb false))]) (.seq (.seq (.bQ [qm 3 0,qu 4 (.aW 3),qf 5 4 4,ql 6 5,qm 7 0,qu 8 (.aW 7),qf 9 1 8,ql 10 9,qu 11 (.aF .eql 6 10),qm 12 11,qg 13 (.aD 0) 12 true,qg 14 (.aW 13) 12 true,qg 15 (.bg 2 14) 12 true,qg 16 (.load false 1 15) 12 true,qu 17 (.pick 12 16 (qb false))] [(.cons 0 none (.cons 1 none (.cons 2 none (.cons 3 none (.cons 4 none (.cons 5 none (.cons 6 none (.cons 7 none (.cons 8 none (.cons 9 none (.cons 10 none (.cons 11 none (.cons 12 none (.cons 13 none (.cons 14 none .nil)))))))))))))))]) (.cond 17 (.seq (.ai [qu 2 (.aD (qb false))]) .ret) .skip)) (.seq (.bQ [qm 18 0,qm 19 0,qu 20 (.aW 19),qf 21 0 20,ql 22 21,qm 23 0,qu 24 (.aW 23),qf 25 4 24,ql 26 25,qu 27 (.bO 9 22 26),qf 28 8 27,ql 29 28,qu 30 (.aW 18),qf 31 4 30,qw (.store 1 31 29)] [(.cons 0 none (.cons 1 none (.cons 2 none (.cons 3 none (.cons 4 none (.cons 5 none (.cons 6 none (.cons 7 none (.cons 8 none (.cons 9 none (.cons 10 none (.cons 11 none (.cons 12 none (.cons 13 none (.cons 14 (some []) .nil)))))))))))))))]) (.seq (.ai [qu 2 (.aD (qb true))]) .ret))))⟩
def c140:LF:= ⟨48,[.tmp 4],(.seq (.ai [qu 4 (.aD (qi 0))]) (.seq (.seq (.ai [qm 8 0,qu 9 (.aW 8),qf 10 3 9,ql 11 10,qu 12 (.aF .eql 11 (qi 6))]) (.cond 12 (.seq (.ai [qu 4 (.aD (qi 13))]) .ret) .skip)) (.seq (.ai [qm 13 0,qu 14 (.aW 13),qf 15 3 14,ql 16 15,qu 17 (.aF .add 16 (qi 1)),qu 18 (.aW 13),qf 19 3 18,qw (.store 1 19 17)]) (.seq (.ai [qm 21 1,qu 22 (qc 73 [21]),qm 20 22,qu 23 (.ext 20 0),qu 24 (.ext 20 1),qu 25 (.ext 20 2),qm 5 23,qm 6 24,qm 7 25]) (.seq (.seq (.ai [qm 26 7,qu 27 (.aF .neq 26 (qi 0))]) (.cond 27 (.seq (.ai [qm 28 7,qm 4 28]) .ret) .skip)) (.seq (.seq (.ai [qm 29 6]) (.cond 29 (.seq (.seq (.ai [qm 30 0,qu 31 (.aW 30),qf 32 2 31,ql 33 32]) (.cond 33 (.seq (.ai [qu 4 (.aD (qi 14))]) .ret) .skip)) (.ai [qm 34 0,qu 35 (.aW 34),qf 36 4 35,qw (.store 1 36 (qi 0))])) .skip)) (.seq (.bQ [qm 37 0,qu 38 (.mh 1 [(.aa (.val (.string ⟨#[]⟩)))] 0 []),qm 39 5,qu 40 (.nO 1 16 38 39),qm 41 0,qu 42 (.aW 41),qf 43 5 42,ql 44 43,qu 45 (.nO 1 16 40 44),qu 46 (.aW 37),qf 47 5 46,qw (.store 1 47 45)] [(.cons 0 none (.cons 2 none (.cons 4 none (.cons 5 none (.cons 6 none (.cons 7 none (.cons 1 (some [7]) (.cons 3 (some [7]) (.cons 8 (some []) (.cons 9 none (.cons 10 none (.cons 11 (some []) .nil))))))))))))]) (.seq (.ai [qu 4 (.aD (qi 0))]) .ret))))))))⟩
theorem l139:bs Tryz.prog Tryz.f139=some c139:=by kernel_rfl
theorem l140:bs Tryz.prog Tryz.f140=some c140:=by kernel_rfl
def sS(l:List Ob)(ax:Nat)(aA:Bool)(h a:Nat)(t:List bJ.dN):Bk:= .var [.aa (OZ l),.aa (.val (.int .i64 (ax:Nat))),.aa (.val (.bool aA)),.aa (.val (.int .i64 (h:Nat))),.aa (.val (.int .i64 (a:Nat))),.aa (bJ.Xi t)]
theorem ww(l:List Ob)(ax:Nat)(aA:Bool)(h a:Nat)(t:List bJ.dN):sS l ax aA h a t≠.bh:=by intro x;cases x
theorem MK{f:Nat}{args:List CV}(ha:∀σ,args.map (CV.aQ σ)=args){l:List Ob}{ax:Nat}{aA:Bool}{h a:Nat}{t:List bJ.dN}{Q:CV->Nat->Nat->List bJ.dN->Prop}(hr:∀r h a t,Q r h a t->∀σ,r.aQ σ=r)(hc:ar Tryz.prog f (.rv (.one (.ptr 0 0))::args) [sS l ax aA h a t] (fun r m=>∃h' a' t',m=[sS l ax aA h' a' t']/\Q r h' a' t')){m:Mem}(id:Nat)(hb:df m id=some (sS l ax aA h a t)){K:CV->Mem->Prop}(hK:∀r h' a' t',Q r h' a' t'->K r (ba m id (sS l ax aA h' a' t'))):ar Tryz.prog f (.rv (.one (.ptr id 0))::args) m K:=by
 have hid:id<m.length:=by rw[aX]at hb;exact(aac.1 hb).1
 refine bC [id] m.length rfl rfl rfl (by simp[fm,hid]) (args0:= .rv (.one (.ptr 0 0))::args) (by rw[aaX,ha];rfl) (fun i b' hi=>?_) hc (fun r1 m1 Bp=>?_)
 .cases i with
  |zero=>
   simp at hi;subst hi;refine .inr ⟨fun h=>h,_,?_,.eq rfl (ww _ _ _ _ _ _)⟩
   rw[aX]at hb;exact hb
  |succ i=>simp at hi
 .obtain⟨h',a',t',rfl,hq⟩:=Bp;refine⟨aaj _,?_⟩;rw[hr _ _ _ _ hq];show K r1 (dn m [id] [sS l ax aA h' a' t']);rw[Cg];exact hK _ _ _ _ hq
theorem Jg{r:CV}{l:List Ob}{ax:Nat}{aA:Bool}{h a:Nat}{t:List bJ.dN}{X:Mem}(hr:∀σ,r.aQ σ=r):View 1 ⟨[r],sS l ax aA h a t::X⟩ ⟨[r],[sS l ax aA h a t]⟩:=
 View.of (X.length+1) [0] [] rfl rfl rfl rfl rfl (by simp[fm,Nat.blt]) (.eq (hr _) .nil) (.pt rfl rfl (.eq rfl (ww _ _ _ _ _ _)) (.nil _))
def upR(l:List Ob)(ax:Nat)(aA:Bool)(h a:Nat)(t:List bJ.dN)(r:CV)(h' a':Nat)(t':List bJ.dN):Prop:=
 h'=h/\t'=t/\((aA=true/\a=ax)/\r=ay false/\a'=a\/¬(aA=true/\a=ax)/\r=ay true/\a'=Aw l a)
theorem Po(l:List Ob)(ok:na l)(ax:Nat)(aA:Bool)(h a:Nat)(ha:a<l.length)(t:List bJ.dN):body Tryz.prog c139 [.rv (.one (.ptr 0 0))] [sS l ax aA h a t] (fun r m=>∃h' a' t',m=[sS l ax aA h' a' t']/\upR l ax aA h a t r h' a' t'):=by
 have hg:=mF ha;have hu:=ok.MC ha;refine bH (fun h1=>?_) (fun h1=>?_)
 .cases aA with
  |true=>exact⟨_,_,_,rfl,rfl,rfl,.inl ⟨⟨rfl,om⟩,rfl,rfl⟩⟩
  |false=>
   refine ag hg ?_;refine⟨trivial,?_⟩;rw[hu];exact⟨_,_,_,rfl,rfl,rfl,.inr ⟨aG,rfl,rfl⟩⟩
 .refine ag hg ?_;refine⟨trivial,?_⟩;rw[hu];exact⟨_,_,_,rfl,rfl,rfl,.inr ⟨fun h=>h1 (by rw[h.2]),rfl,rfl⟩⟩
theorem Vs(l:List Ob)(ok:na l)(ax:Nat)(aA:Bool)(h a:Nat)(ha:a<l.length)(t:List bJ.dN){m:Mem}(id:Nat)(hb:df m id=some (sS l ax aA h a t)){K:CV->Mem->Prop}(UH:(aA=true/\a=ax)->K (ay false) (ba m id (sS l ax aA h a t)))(hK2:¬(aA=true/\a=ax)->K (ay true) (ba m id (sS l ax aA h (Aw l a) t))):ar Tryz.prog 139 [.rv (.one (.ptr id 0))] m K:=by
 refine MK (args:=[]) (fun _=>rfl) (Q:=upR l ax aA h a t) (fun r h a t hq σ=>?_) (aZ Tryz.func139 l139 (Po l ok ax aA h a ha t)) id hb (fun r h' a' t' hq=>?_)
 .rcases hq.2.2 with⟨_,rfl,_⟩|⟨_,rfl,_⟩<;>rfl
 .obtain⟨rfl,rfl,hq⟩:=hq;rcases hq with⟨h1,rfl,rfl⟩|⟨h1,rfl,rfl⟩
  .exact UH h1
  .exact hK2 h1
theorem pV(t:bJ.dN):(bJ.cG t).1.length<=61:=by
 unfold bJ.cG;split
 .simp
 .split
  .simp
  .split
   .show(bJ.Av t).length<=61;have h1:=abJ bJ.ru (bJ.gx 47 t);have h2:=bJ.wj 47 t;unfold bJ.Av;omega
   .simp
inductive Ol(p:List bJ.dN×Bool×Int)(aA:Bool)(h a:Nat)(t:List bJ.dN):CV->Nat->Nat->List bJ.dN->Prop
 |loop (h' a':Nat) (t':List bJ.dN) (h6:h=6):Ol p aA h a t (an .i64 13) h' a' t'
 |iL (h' a':Nat) (t':List bJ.dN) (h6:h≠6) (he:p.2.2≠0):Ol p aA h a t (an .i64 p.2.2) h' a' t'
 |out (h' a':Nat) (t':List bJ.dN) (h6:h≠6) (he:p.2.2=0) (hr:p.2.1=true) (hf:aA=true):Ol p aA h a t (an .i64 14) h' a' t'
 |ok (h6:h≠6) (he:p.2.2=0) (hr:¬(p.2.1=true/\aA=true)):Ol p aA h a t (an .i64 0) (h+1) (if p.2.1=true then 0 else a) (p.1++t)
theorem Ol.data{p:List bJ.dN×Bool×Int}{aA:Bool}{h a:Nat}{t:List bJ.dN}{r:CV}{h' a':Nat}{t':List bJ.dN}(x:Ol p aA h a t r h' a' t')(σ:Nat->Nat):r.aQ σ=r:=by cases x<;>rfl
def TV1(Q:CV->Mem->Prop)(r:CV)(m:Mem):Prop:=∃r' m',View 1 ⟨[r],m⟩ ⟨[r'],m'⟩/\Q r' m'
theorem Pp(a b:List bJ.dN):af (a.map bJ.tD)++af (b.map bJ.tD)=af ((a++b).map bJ.tD):=by rw[aaU,bJ.cD]
theorem Vt{m:Mem}{Z:Nat->Prop}{id:Nat}{p:Option Nat}{X:List (List CC)}{ds:List (List Dt)}(hz:Z id)(hm:m[id]? =some (.row 1 X))(hX:X=af ds):dP m Z p (.row id 1 0 none) (.sl 1 ds):=by
 subst hX;refine dP.row id 1 0 none (af ds) ds hz hm (by simp[af]) (fun i cs es h1 h2=>?_) (fun i cs es j c d h1 h2 h3 h4=>?_)
 .simp only[af,aaf,h2,aaC,aaA]at h1;subst h1;simp
 .simp only[af,aaf,h2,aaC,aaA]at h1;subst h1;rw[aaf,h4]at h3;cases h3;exact .aa _
theorem Vu{l:List Ob}{ax:Nat}{aA:Bool}{h a:Nat}{t parts:List bJ.dN}{m:Mem}{σ:Nat->Nat}(hm:m[3]? =some (.row 1 ((([]:List (List CC))++af (parts.map bJ.tD))++af (t.map bJ.tD)))):
  mZ σ m (fun k=>bq [3] k=true) 0 (.var [.aa (OZ l),.aa (.val (.int .i64 (ax:Nat))),.aa (.val (.bool aA)),.aa (.val (.int .i64 (h:Nat))),.aa (.val (.int .i64 (a:Nat))),.row 3 1 0 none]) (sS l ax aA h a (parts++t)):=
 e7.var (.cons (.aQ (.aa _)) (.cons (.aQ (.aa _)) (.cons (.aQ (.aa _)) (.cons (.aQ (.aa _)) (.cons (.aQ (.aa _)) (.cons (.fv (Vt rfl hm (by rw[acT];exact Pp parts t))) .nil))))))
theorem Jh(l:List Ob)(ax:Nat)(aA:Bool)(h a:Nat)(hh:h<=6)(t:List bJ.dN)(ht:t.length<=1000)(s:bJ.dN):
  body Tryz.prog c140 [.rv (.one (.ptr 0 0)),bJ.vT s] [sS l ax aA h a t] (TV1 fun r m=>∃h' a' t',m=[sS l ax aA h' a' t']/\Ol (bJ.cG s) aA h a t r h' a' t'):=by
 refine bH (fun h1=>?_) (fun h1=>?_)
 .exact⟨_,_,Jg (X:=[]) (fun _=>rfl),_,_,_,rfl,.loop _ _ _ om⟩
 have h6:h≠6:=fun e=>h1 (by rw[e];rfl)
 refine bJ.wm s ?_;have hp:=pV s;generalize bJ.cG s=p at hp⊢;obtain⟨parts,au,er⟩:=p;have hp:parts.length<=61:=hp;have e1:IntKind.i64.wrap ((h:Int)+1)=((h+1:Nat):Int):=by
  rw[show(h:Int)+1=((h+1:Nat):Int) by omega,jN om]
 rw[e1];refine br (fun h2=>?_) (fun h2=>?_)
 .exact⟨_,_,Jg (h:=h+1) (X:=[]) (fun _=>rfl),_,_,_,rfl,.iL _ _ _ h6 h2⟩
 have h2:er=0:=by simpa using h2
 subst h2;cases au with
 |true=>
  cases aA with
  |true=>exact⟨_,_,Jg (h:=h+1) (X:=[]) (fun _=>rfl),_,_,_,rfl,.out _ _ _ h6 rfl rfl rfl⟩
  |false=>
   refine⟨⟨rfl,trivial⟩,?_⟩;refine⟨?_,?_⟩
   .show(0+(af (parts.map bJ.tD)).length)*16<=_;rw[bJ.bc,aad];omega
   refine⟨⟨rfl,trivial⟩,?_⟩;refine⟨?_,?_⟩
   .show((([]:List (List CC))++af (parts.map bJ.tD)).length+(af (t.map bJ.tD)).length)*16<=_;rw[aa3,bJ.bc,bJ.bc,aad,aad];show(0+parts.length+t.length)*16<=_;omega
   refine⟨trivial,?_⟩;refine⟨trivial,?_⟩;exact⟨_,_,View.o 4 [0] [3] (.eq rfl .nil) (.pt rfl rfl (Vu (t:=t) (parts:=parts) rfl) (.nil _)),_,_,_,rfl,.ok h6 rfl aG⟩
 |false=>
  refine⟨⟨rfl,trivial⟩,?_⟩;refine⟨?_,?_⟩
  .show(0+(af (parts.map bJ.tD)).length)*16<=_;rw[bJ.bc,aad];omega
  refine⟨⟨rfl,trivial⟩,?_⟩;refine⟨?_,?_⟩
  .show((([]:List (List CC))++af (parts.map bJ.tD)).length+(af (t.map bJ.tD)).length)*16<=_;rw[aa3,bJ.bc,bJ.bc,aad,aad];show(0+parts.length+t.length)*16<=_;omega
  refine⟨trivial,?_⟩;refine⟨trivial,?_⟩;exact⟨_,_,View.o 4 [0] [3] (.eq rfl .nil) (.pt rfl rfl (Vu (t:=t) (parts:=parts) rfl) (.nil _)),_,_,_,rfl,.ok h6 rfl aG⟩
theorem Ht(l:List Ob)(ax:Nat)(aA:Bool)(h a:Nat)(hh:h<=6)(t:List bJ.dN)(ht:t.length<=1000)(s:bJ.dN){m:Mem}(id:Nat)(hb:df m id=some (sS l ax aA h a t)){K:CV->Mem->Prop}(hK:∀r h' a' t',Ol (bJ.cG s) aA h a t r h' a' t'->K r (ba m id (sS l ax aA h' a' t'))):ar Tryz.prog 140 [.rv (.one (.ptr id 0)),bJ.vT s] m K:=
 MK (args:=[bJ.vT s]) (fun _=>rfl) (Q:=Ol (bJ.cG s) aA h a t) (fun r h a t hq σ=>hq.data σ)
  (bN (aZ Tryz.func140 l140 (Jh l ax aA h a hh t ht s)) fun r m1⟨r',m',hv,hq⟩=>⟨r',m',hv,hq⟩) id hb hK
def c114:LF:= ⟨118,[.cell true 3 4,.tmp 5,.tmp 6],(.seq (.ai [qu 4 (.alloc [(qd 0),(qd 0),(.aa (.val (.string ⟨#[]⟩)))]),qu 5 (.aD (qb false)),qu 6 (.aD (qi 0))]) (.seq (.ai [qm 10 0,qu 11 (.aW 10),qf 12 5 11,ql 13 12,qu 14 (.bO 1 13 (qi 0)),ql 15 14,qm 7 15]) (.seq (.ai [qm 16 0,qm 17 0,qu 18 (.aW 17),qf 19 5 18,ql 20 19,qu 21 (.nN 1 20 (some (qi 1)) none none),qu 22 (.aW 16),qf 23 5 22,qw (.store 1 23 21)]) (.seq (.seq (.bQ [qm 24 0,qu 25 (.aW 24),qf 26 0 25,ql 27 26,qm 28 0,qu 29 (.aW 28),qf 30 4 29,ql 31 30,qu 32 (.bO 9 27 31),qf 33 0 32,ql 34 33,qu 35 (.aF .neq 34 (qi 2))] [(.cons 0 none (.cons 1 none (.cons 2 none (.cons 3 none (.cons 4 none (.cons 5 none (.cons 6 none (.cons 7 none (.cons 8 none (.cons 9 none (.cons 10 none (.cons 11 none .nil))))))))))))]) (.cond 35 (.seq (.ai [qu 36 (.build [(qd 0),(qd 0),(.aa (.val (.string ⟨#[]⟩)))] []),qw (.store 3 4 36),qu 5 (.aD (qb false)),qu 6 (.aD (qi 11))]) .ret) .skip)) (.seq (.seq (.ai [qm 37 7,qu 38 (.aF .eql 37 (.c (.rv (.one (.aa (.val (.string ⟨#[46,46]⟩)))))))]) (.cond 38 (.seq (.seq (.ai [qm 39 0,qu 40 (qc 139 [39]),qu 41 (.un .not 40)]) (.cond 41 (.seq (.ai [qu 42 (.build [(qd 0),(qd 0),(.aa (.val (.string ⟨#[]⟩)))] []),qw (.store 3 4 42),qu 5 (.aD (qb false)),qu 6 (.aD (qi 14))]) .ret) .skip)) (.seq (.ai [qu 43 (.build [(qd 0),(qd 0),(.aa (.val (.string ⟨#[]⟩)))] []),qw (.store 3 4 43),qu 5 (.aD (qb false)),qu 6 (.aD (qi 0))]) .ret)) .skip)) (.seq (.bQ [qm 44 0,qu 45 (.aW 44),qf 46 0 45,ql 47 46,qm 48 0,qu 49 (.aW 48),qf 50 4 49,ql 51 50,qm 52 7,qu 53 (qc 115 [47,51,52]),qm 8 53] [(.cons 0 none (.cons 1 none (.cons 2 none (.cons 3 none (.cons 4 none (.cons 5 none (.cons 6 none (.cons 7 none (.cons 8 none (.cons 9 (some []) (.cons 10 none .nil)))))))))))]) (.seq (.ai [qm 54 0,qu 55 (.aW 54),qf 56 5 55,ql 57 56,qu 58 (.len 1 57),qu 59 (.aF .eql 58 (qi 0)),qm 9 59]) (.seq (.block 0 (.seq (.ai [qm 61 8,qu 62 (.aF .lss 61 (qi 0)),qm 63 62,qg 64 (.aD 9) 63 true,qu 65 (.pick 63 64 (qb false)),qm 60 65]) (.cond 60 (.seq (.ai [qm 66 0,qu 67 (.aW 66),qf 68 4 67,ql 69 68,qm 70 7,qu 71 (.build [(qd 0),(qd 0),(.aa (.val (.string ⟨#[]⟩)))] [(0,1,(qi (-1))),(1,1,69),(2,1,70)]),qw (.store 3 4 71),qu 5 (.aD (qb true)),qu 6 (.aD (qi 0))]) .ret) (.seq (.ai [qm 73 8,qu 74 (.aF .lss 73 (qi 0)),qm 72 74]) (.cond 72 (.seq (.ai [qu 75 (.build [(qd 0),(qd 0),(.aa (.val (.string ⟨#[]⟩)))] []),qw (.store 3 4 75),qu 5 (.aD (qb false)),qu 6 (.aD (qi 6))]) .ret) (.seq (.ai [qm 77 0,qu 78 (.aW 77),qf 79 0 78,ql 80 79,qm 81 8,qu 82 (.bO 9 80 81),qf 83 0 82,ql 84 83,qu 85 (.aF .eql 84 (qi 3)),qm 86 85,qg 87 (.aD 9) 86 true,qg 88 (.un .not 87) 86 true,qg 89 (.aD 88) 86 true,qg 90 (.aD 1) 89 false,qg 91 (.pick 89 (qb true) 90) 86 true,qu 92 (.pick 86 91 (qb false)),qm 76 92]) (.cond 76 (.seq (.ai [qu 93 (.build [(qd 0),(qd 0),(.aa (.val (.string ⟨#[]⟩)))] []),qm 94 0,qm 95 0,qu 96 (.aW 95),qf 97 0 96,ql 98 97,qm 99 8,qu 100 (.bO 9 98 99),qf 101 3 100,ql 102 101,qu 103 (qc 140 [94,102]),qw (.store 3 4 93),qu 5 (.aD (qb false)),qm 6 103]) .ret) (.seq (.ai [qm 105 9,qm 104 105]) (.cond 104 (.seq (.ai [qm 106 8,qm 107 0,qu 108 (.aW 107),qf 109 4 108,ql 110 109,qm 111 7,qu 112 (.build [(qd 0),(qd 0),(.aa (.val (.string ⟨#[]⟩)))] [(0,1,106),(1,1,110),(2,1,111)]),qw (.store 3 4 112),qu 5 (.aD (qb true)),qu 6 (.aD (qi 0))]) .ret) .skip))))))))) (.seq (.ai [qm 113 0,qm 114 8,qu 115 (.aW 113),qf 116 4 115,qw (.store 1 116 114)]) (.seq (.ai [qu 117 (.build [(qd 0),(qd 0),(.aa (.val (.string ⟨#[]⟩)))] []),qw (.store 3 4 117),qu 5 (.aD (qb false)),qu 6 (.aD (qi 0))]) .ret))))))))))⟩
theorem l114:bs Tryz.prog Tryz.f114=some c114:=by kernel_rfl
def ML(l:List Ob)(ax:Nat)(aA follow:Bool):Nat->Nat->List bJ.dN->Nat->R4
 |0=>fun _ _ _=>R4.no 13
 |n+1=>Pl l aA (Bt l ax aA follow n)
theorem SA(l:List Ob)(ax:Nat)(aA follow:Bool)(n:Nat):Bt l ax aA follow n=Hr l ax aA follow (ML l ax aA follow n):=by
 cases n<;>rfl
def Tv(r:R4):List Dt:=[.val (.int .i64 r.bv),.val (.int .i64 r.cL),.val (.string (bJ.cz r.name))]
def Y8(r:R4)(ok:Bool):CV:= .bF [.agg ((Tv r).map .aa),.one (.aa (.val (.bool ok))),.one (.aa (.val (.int .i64 r.iL)))]
inductive Q4(l:List Ob)(ax:Nat)(aA follow:Bool)(h a:Nat)(s:bJ.dN)(t:List bJ.dN):CV->Nat->Nat->List bJ.dN->Prop
 |done (r:R4) (ok:Bool) (h' a':Nat) (t':List bJ.dN) (hd:ok=true\/r.iL≠0) (he:Bt l ax aA follow (6-h) (s::t) a=r):Q4 l ax aA follow h a s t (Y8 r ok) h' a' t'
 |go (h' a':Nat) (t':List bJ.dN) (he:Bt l ax aA follow (6-h) (s::t) a=Bt l ax aA follow (6-h') t' a') (ha:a'<l.length) (hm:h'=h/\t'=t\/h'=h+1/\h<6/\t'.length<=61+t.length):Q4 l ax aA follow h a s t (Y8 (R4.no 0) false) h' a' t'
theorem Q4.data{l:List Ob}{ax:Nat}{aA follow:Bool}{h a:Nat}{s:bJ.dN}{t:List bJ.dN}{r:CV}{h' a':Nat}{t':List bJ.dN}(x:Q4 l ax aA follow h a s t r h' a' t')(σ:Nat->Nat):r.aQ σ=r:=by cases x<;>rfl
theorem Ji(t:List bJ.dN):((t.map bJ.tD).length:Int)=t.length:=by rw[aad]
theorem Jj(l:List Ob)(ok:na l)(ax:Nat)(aA follow:Bool)(h a:Nat)(hh:h<=6)(ha:a<l.length)(s:bJ.dN)(t:List bJ.dN)(ht:t.length<=1000):
  body Tryz.prog c114 [.rv (.one (.ptr 0 0)),ay follow] [sS l ax aA h a (s::t)] (TV1 fun r m=>∃h' a' t',m=[sS l ax aA h' a' t']/\Q4 l ax aA follow h a s t r h' a' t'):=by
 have hg:=mF ha;have hw:=SA l ax aA follow (6-h);have hS:∀r,Hr l ax aA follow (ML l ax aA follow (6-h)) (s::t) a=r->Bt l ax aA follow (6-h) (s::t) a=r:=fun r e=>by rw[hw];exact e
 refine cF (by rw[aap,aaR,aaR,aad,aax];exact⟨Nat.succ_le_succ (aao _),aaj _⟩) ?_
 rw[show List.drop 1 (List.take (List.map bJ.tD (s::t)).length (List.map bJ.tD (s::t)))=t.map bJ.tD by rw[aaO];rfl]
 refine ag hg ?_;refine br (fun h1=>?_) (fun h1=>?_)
 .exact⟨_,_,Jg (fun _=>rfl),_,_,_,rfl,.done (R4.no 11) false _ _ _ (.inr (by simp[R4.no])) (hS _ (by rw[Hr,if_pos (by rw[sR ha];exact h1)]))⟩
 have h1:l[a].ah=2:=by simpa using h1
 have pK:¬(li l a).ah≠2:=by rw[sR ha,h1];simp
 refine bJ.kW (b:=[46,46]) (fun h2=>?_) (fun h2=>?_)
 .subst h2;refine Vs l ok ax aA h a ha t 0 rfl (fun h3=>?_) (fun h3=>?_)
  .exact⟨_,_,Jg (fun _=>rfl),_,_,_,rfl,.done (R4.no 14) false _ _ _ (.inr (by simp[R4.no])) (hS _ (by rw[Hr,if_neg pK,if_pos rfl,if_pos h3]))⟩
  .exact⟨_,_,Jg (fun _=>rfl),_,_,_,rfl,.go h (Aw l a) t (hS _ (by rw[Hr,if_neg pK,if_pos rfl,if_neg h3,hw])) (ok.Ss a) (.inl ⟨rfl,rfl⟩)⟩
 refine MJ l ok a ha h1 s ?_;refine⟨trivial,?_⟩;have hf:=ok.Su a s;have Vo:l4 l a s<0->l4 l a s= -1:=fun h=>by
  rcases ju (iA (li l a)) (bJ.cz s)with⟨e,he,_,h3⟩|⟨h3,_⟩
  .have:=(ok.eh a).2.1 e he;rw[l4,h3]at h;omega
  .exact h3
 have hW:∀r,(if l4 l a s<0 then(if t≠[]then R4.no 6 else⟨-1,a,s,0⟩)else if(li l (l4 l a s).toNat).ah=3/\(follow=true\/t≠[])then ML l ax aA follow (6-h) a t (l4 l a s).toNat
  else if t=[]then⟨l4 l a s,a,s,0⟩else Hr l ax aA follow (ML l ax aA follow (6-h)) t (l4 l a s).toNat)=r->Bt l ax aA follow (6-h) (s::t) a=r:=fun r e=>hS r (by rw[Hr,if_neg pK,if_neg h2];exact e)
 refine aB (fun h3=>?_) (fun h3=>?_)
 .refine bH (fun h4=>?_) (fun h4=>?_)
  .rw[Ji]at h4;have h4:t=[]:=aat om;exact⟨_,_,Jg (fun _=>rfl),_,_,_,rfl,.done ⟨-1,a,s,0⟩ true _ _ _ (.inl rfl) (hW _ (by rw[if_pos h3,if_neg (by simp[h4])]))⟩
  .rw[Ji]at h4;have h4:t≠[]:=fun e=>h4 (by rw[e];rfl)
   refine cF (decide_eq_true h3) ?_;exact⟨_,_,Jg (fun _=>rfl),_,_,_,rfl,.done (R4.no 6) false _ _ _ (.inr (by simp[R4.no])) (hW _ (by rw[if_pos h3,if_pos h4]))⟩
 obtain⟨k,IB,hk⟩:=hf h3;rw[if_neg h3]at hW;refine dZ (decide_eq_false h3) ?_;rw[IB,aaw,sR hk]at hW;have SB:=mF hk;have htg:l[k].target=bJ.cz (MB l k):=by obtain⟨tg,e⟩:=bJ.oV l[k].target;rw[MB,sR hk,e];rfl
 rw[htg]at SB;rw[IB];have Vv:¬(l[k].ah=3/\(follow=true\/t≠[]))->∀r,(if t=[]then⟨(k:Int),a,s,0⟩else Hr l ax aA follow (ML l ax aA follow (6-h)) t k)=r->Bt l ax aA follow (6-h) (s::t) a=r:=fun hn r e=>hW r (by rw[if_neg hn];exact e)
 refine ag SB ?_;refine bH (fun h6=>?_) (fun h6=>?_)
 .have h6:l[k].ah=3:=h6;have Vw:(follow=true\/t≠[])->∀r h' a' t',Ol (bJ.cG (MB l k)) aA h a t r h' a' t'->∃e,r=an .i64 e/\Q4 l ax aA follow h a s t (Y8 (R4.no e) false) h' a' t':=by
   intro T3;rw[if_pos ⟨h6,T3⟩]at hW;intro r h' a' t' hq;cases hq with
   |loop _ _ _ e6=>exact⟨13,rfl,.done (R4.no 13) false _ _ _ (.inr (by simp[R4.no])) (hW _ (by rw[e6];rfl))⟩
   |iL _ _ _ e6 he=>exact⟨_,rfl,.done (R4.no _) false _ _ _ (.inr he) (hW _ (by rw[show 6-h=(5-h)+1 by omega];show Pl _ _ _ _ _ _=_;rw[Pl,if_pos he]))⟩
   |out _ _ _ e6 he hr hf'=>exact⟨14,rfl,.done (R4.no 14) false _ _ _ (.inr (by simp[R4.no])) (hW _ (by rw[show 6-h=(5-h)+1 by omega];show Pl _ _ _ _ _ _=_;rw[Pl,if_neg (by simp[he]),if_pos ⟨hr,hf'⟩]))⟩
   |ok e6 he hr=>exact⟨0,rfl,.go _ _ _ (hW _ (by rw[show 6-h=(5-h)+1 by omega];show Pl _ _ _ _ _ _=_;rw[Pl,if_neg (by simp[he]),if_neg hr,show 6-(h+1)=5-h by omega])) (by split;exact ok.pos;exact ha) (.inr ⟨rfl,om,by rw[aa3];have:=pV (MB l k);omega⟩)⟩
  refine aE (fun h5=>?_) (fun h5=>?_)
  .have h5:t≠[]:=fun e=>by subst e;cases h5
   refine ag SB ?_;refine Ht l ax aA h a hh t ht (MB l k) 0 rfl fun r h' a' t' hq=>?_
   obtain⟨e,rfl,Ok⟩:=Vw (.inr h5) _ _ _ _ hq;exact⟨_,_,Jg (fun _=>rfl),_,_,_,rfl,Ok⟩
  .have h5:t=[]:=by
    cases t with
    |nil=>rfl
    |cons x r=>cases h5
   cases follow with
   |true=>
    refine ag SB ?_;refine Ht l ax aA h a hh t ht (MB l k) 0 rfl fun r h' a' t' hq=>?_
    obtain⟨e,rfl,Ok⟩:=Vw (.inl rfl) _ _ _ _ hq;exact⟨_,_,Jg (fun _=>rfl),_,_,_,rfl,Ok⟩
   |false=>
    have fS:=Vv (by rw[h5];simp)
    rw[if_pos h5]at fS;subst h5;exact⟨_,_,Jg (fun _=>rfl),_,_,_,rfl,.done ⟨(k:Nat),a,s,0⟩ true _ _ _ (.inl rfl) (fS _ rfl)⟩
 .have h6:l[k].ah≠3:=h6;have fS:=Vv (fun h=>h6 h.1)
  refine bH (fun h7=>?_) (fun h7=>?_)
  .rw[Ji]at h7;have h7:t=[]:=aat om;rw[if_pos h7]at fS;exact⟨_,_,Jg (fun _=>rfl),_,_,_,rfl,.done ⟨(k:Nat),a,s,0⟩ true _ _ _ (.inl rfl) (fS _ rfl)⟩
  .rw[Ji]at h7;have h7:t≠[]:=fun e=>h7 (by rw[e];rfl)
   rw[if_neg h7,<-hw]at fS;exact⟨_,_,Jg (fun _=>rfl),_,_,_,rfl,.go h k t (fS _ rfl) hk (.inl ⟨rfl,rfl⟩)⟩
theorem Pq(l:List Ob)(ok:na l)(ax:Nat)(aA follow:Bool)(h a:Nat)(hh:h<=6)(ha:a<l.length)(s:bJ.dN)(t:List bJ.dN)(ht:t.length<=1000){m:Mem}(id:Nat)(hb:df m id=some (sS l ax aA h a (s::t))){K:CV->Mem->Prop}(hK:∀r h' a' t',Q4 l ax aA follow h a s t r h' a' t'->K r (ba m id (sS l ax aA h' a' t'))):ar Tryz.prog 114 [.rv (.one (.ptr id 0)),ay follow] m K:=
 MK (args:=[ay follow]) (fun _=>rfl) (Q:=Q4 l ax aA follow h a s t) (fun r h a t hq σ=>hq.data σ)
  (bN (aZ Tryz.func114 l114 (Jj l ok ax aA follow h a hh ha s t ht)) fun r m1⟨r',m',hv,hq⟩=>⟨r',m',hv,hq⟩) id hb hK
def c74:LF:= ⟨102,[.cell true 3 10,.tmp 11],(.seq (.ai [qu 10 (.alloc [(qd 0),(qd 0),(.aa (.val (.string ⟨#[]⟩)))]),qu 11 (.aD (qi 0))]) (.seq (.seq (.ai [qm 19 1,qu 20 (.aF .lss 19 (qi 0)),qm 21 20,qg 22 (.aD 1) 21 false,qg 23 (.aD 0) 21 false,qg 24 (.len 1 23) 21 false,qg 25 (.aF .geq 22 24) 21 false,qu 26 (.pick 21 (qb true) 25),qm 27 26,qg 28 (.aD 0) 27 false,qg 29 (.aD 1) 27 false,qg 30 (.bO 9 28 29) 27 false,qg 31 (.bg 0 30) 27 false,qg 32 (.load false 1 31) 27 false,qg 33 (.aF .eql 32 (qi 0)) 27 false,qu 34 (.pick 27 (qb true) 33)]) (.cond 34 (.seq (.ai [qu 35 (.build [(qd 0),(qd 0),(.aa (.val (.string ⟨#[]⟩)))] []),qw (.store 3 10 35),qu 11 (.aD (qi 6))]) .ret) .skip)) (.seq (.seq (.ai [qm 36 0,qm 37 1,qu 38 (.bO 9 36 37),qf 39 0 38,ql 40 39,qu 41 (.aF .neq 40 (qi 2))]) (.cond 41 (.seq (.ai [qu 42 (.build [(qd 0),(qd 0),(.aa (.val (.string ⟨#[]⟩)))] []),qw (.store 3 10 42),qu 11 (.aD (qi 11))]) .ret) .skip)) (.seq (.ai [qm 44 2,qu 45 (qc 73 [44]),qm 43 45,qu 46 (.ext 43 0),qu 47 (.ext 43 1),qu 48 (.ext 43 2),qm 12 46,qm 13 47,qm 14 48]) (.seq (.seq (.ai [qm 49 14,qu 50 (.aF .neq 49 (qi 0))]) (.cond 50 (.seq (.ai [qu 51 (.build [(qd 0),(qd 0),(.aa (.val (.string ⟨#[]⟩)))] []),qm 52 14,qw (.store 3 10 51),qm 11 52]) .ret) .skip)) (.seq (.ai [qm 53 0,qm 54 1,qm 55 3,qm 56 1,qm 57 12,qu 58 (.build [.aI,(qd 0),(.aa (.val (.bool false))),(qd 0),(qd 0),.aI] [(0,1,53),(1,1,54),(2,1,55),(4,1,56),(5,1,57)]),qu 59 (.box 58),qm 15 59]) (.seq (.seq (.ai [qm 60 13]) (.cond 60 (.seq (.seq (.ai [qm 61 3]) (.cond 61 (.seq (.ai [qu 62 (.build [(qd 0),(qd 0),(.aa (.val (.string ⟨#[]⟩)))] []),qw (.store 3 10 62),qu 11 (.aD (qi 14))]) .ret) .skip)) (.ai [qm 63 15,qu 64 (.aW 63),qf 65 4 64,qw (.store 1 65 (qi 0))])) .skip)) (.cO (.seq (.block 0 (.loop (.seq (.seq (.ai [qm 66 15,qu 67 (.aW 66),qf 68 5 67,ql 69 68,qu 70 (.len 1 69),qu 71 (.aF .gtr 70 (qi 0))]) (.cond 71 .skip (.exit 0))) (.block 1 (.seq (.ai [qm 73 15,qm 74 4,qu 75 (qc 114 [73,74]),qm 72 75,qu 76 (.ext 72 0),qu 77 (.ext 72 1),qu 78 (.ext 72 2),qu 16 (.alloc [(qd 0),(qd 0),(.aa (.val (.string ⟨#[]⟩)))]),qw (.store 3 16 76),qm 17 77,qm 18 78]) (.seq (.ai [qm 79 17,qm 80 79,qg 81 (.aD 18) 80 false,qg 82 (.aF .neq 81 (qi 0)) 80 false,qu 83 (.pick 80 (qb true) 82)]) (.cond 83 (.seq (.ai [qL 84 3 16,qm 85 18,qw (.store 3 10 84),qm 11 85]) .ret) .skip))))))) (.seq (.bQ [qm 86 15,qu 87 (.aW 86),qf 88 4 87,ql 89 88,qm 90 15,qu 91 (.aW 90),qf 92 0 91,ql 93 92,qm 94 15,qu 95 (.aW 94),qf 96 4 95,ql 97 96,qu 98 (.bO 9 93 97),qf 99 8 98,ql 100 99,qu 101 (.build [(qd 0),(qd 0),(.aa (.val (.string ⟨#[]⟩)))] [(0,1,89),(1,1,100)]),qw (.store 3 10 101),qu 11 (.aD (qi 0))] [(.cons 0 none (.cons 1 none (.cons 2 none (.cons 3 none (.cons 4 none (.cons 5 none (.cons 6 none (.cons 7 none (.cons 8 none (.cons 9 none (.cons 10 none (.cons 11 none (.cons 12 none (.cons 13 none (.cons 14 none (.cons 15 none (.cons 16 (some []) (.cons 17 none .nil))))))))))))))))))]) .ret))))))))))⟩
theorem l74:bs Tryz.prog Tryz.f74=some c74.er:=by kernel_rfl
def Tw(r:R4):CV:= .bF [.agg ((Tv r).map .aa),.one (.aa (.val (.int .i64 r.iL)))]
theorem Vx(r:R4):(Tw r).B6=true:=rfl
structure StP where
 h:Nat
 a:Nat
 t:List bJ.dN
theorem Pr(l:List Ob)(ax:Nat)(aA follow:Bool)(n a:Nat):Bt l ax aA follow n [] a=⟨a,Aw l a,[],0⟩:=by
 cases n<;>rfl
def G9:LC:=pj (bK (bK (bK (bK (bK (bK (bK c74.code)))))))
def Vy:Bk:= .var ((Tv (R4.no 0)).map .aa)
theorem CK(l:List Ob)(ok:na l)(b:Nat)(aA follow:Bool)(a0:Nat)(Tx:a0<l.length)(parts:List bJ.dN)(hp:parts.length<=61):
  aw Tryz.prog 0 G9 (nG Tryz.prog c74.lj (fun r m=>r=Tw (Bt l b aA follow 6 parts a0))) ⟨mg 102 [(0,Ab l),(4,ay follow),(10,.rv (.one (.ptr 0 0))),(15,.rv (.one (.ptr 1 0)))],[Vy,sS l b aA 0 a0 parts]⟩:=by
 refine aO (fun a:StP=>a.h<=6/\a.a<l.length/\a.t.length<=61*(a.h+1)/\Bt l b aA follow (6-a.h) a.t a.a=Bt l b aA follow 6 parts a0) [0,4,10,15] (fun _=>[]) (fun a=>[Vy,sS l b aA a.h a.a a.t]) (fun a=>(6-a.h)*1000+a.t.length) ⟨0,a0,parts⟩ ⟨aao _,Tx,by simpa using hp,rfl⟩ ?_ (fun a ha=>?_)
 .refine View.o 2 [0,1] [] ?_ (.pt rfl rfl (.eq rfl (by intro x;cases x)) (.pt rfl rfl (.eq rfl (ww _ _ _ _ _ _)) (.nil _)))
  repeat(first|exact .nil|refine .ap ?_|refine .eq rfl ?_)
 obtain⟨h,a,t⟩:=a;obtain⟨hh,ha,ht,he⟩:=ha;have hh:h<=6:=hh;have ha:a<l.length:=ha;have ht:t.length<=61*(h+1):=ht;have he:Bt l b aA follow (6-h) t a=Bt l b aA follow 6 parts a0:=he;refine aB (fun h1=>?_) (fun h1=>?_)
 .have h1:((t.map bJ.tD).length:Int)>0:=h1;rw[Ji]at h1;obtain⟨s,t',rfl⟩:∃s t',t=s::t':=by
   cases t with
   |nil=>simp at h1
   |cons s t'=>exact⟨s,t',rfl⟩
  have ht:t'.length+1<=61*(h+1):=by simpa using ht
  refine Pq l ok b aA follow h a hh ha s t' om 1 rfl fun r h' a' Vz hq=>?_
  cases hq with
  |done r okk h' a' Vz hd hr=>
   rw[<-he,hr];cases okk with
   |true=>exact rfl
   |false=>
    have hd:r.iL≠0:=by simpa using hd
    refine br (fun h2=>?_) (fun h2=>?_)
    .exact rfl
    .exact absurd h2 hd
  |go h' a' Vz hr ha' hm=>
   refine⟨⟨h',a',Vz⟩,⟨?_,ha',?_,hr.symm.trans he⟩,?_,View.o 3 [0,1] [] ?_ (.pt rfl rfl (.eq rfl (by intro x;cases x)) (.pt rfl rfl (.eq rfl (ww _ _ _ _ _ _)) (.nil _)))⟩
   .show h'<=6;omega
   .show Vz.length<=61*(h'+1);rcases hm with⟨rfl,rfl⟩|⟨rfl,h6,hl⟩
    .omega
    .omega
   .show(6-h')*1000+Vz.length<(6-h)*1000+(s::t').length;rw[aax];rcases hm with⟨rfl,rfl⟩|⟨rfl,h6,hl⟩
    .omega
    .omega
   .repeat(first|exact .nil|refine .ap ?_|refine .eq rfl ?_)
 .have h1:¬((t.map bJ.tD).length:Int)>0:=h1;rw[Ji]at h1;have h1:t=[]:=aat om;subst h1;rw[Pr]at he;refine ag (mF ha) ?_;refine⟨trivial,?_⟩;rw[<-he,ok.MC ha];exact rfl
theorem Jk(l:List Ob)(ok:na l)(ax:Int)(s:bJ.dN)(aA follow:Bool):body Tryz.prog c74 [Ab l,an .i64 ax,bJ.vT s,ay aA,ay follow] [] (fun r m=>r=Tw (pq l ax s aA follow)):=by
 have jC:oe l ax 0=false->pq l ax s aA follow=R4.no 6:=fun h=>by rw[pq,h];rfl
 refine aB (fun h1=>?_) (fun h1=>?_)
 .rw[jC (by rw[oe,decide_eq_false om];rfl)];rfl
 obtain⟨b,rfl⟩:∃b:Nat,ax=b:=⟨ax.toNat,om⟩;refine aB (fun h2=>?_) (fun h2=>?_)
 .have h2:(b:Int)>=((l.map Ob.enc).length:Int):=h2;rw[aad]at h2;rw[jC (by rw[oe,decide_eq_false (p:=(b:Int)<l.length) om];simp)];rfl
 have h2:¬(b:Int)>=((l.map Ob.enc).length:Int):=h2;rw[aad]at h2;have hb:b<l.length:=om;have hg:=mF hb;refine ag hg ?_;refine bH (fun h3=>?_) (fun h3=>?_)
 .have h3:l[b].ah=0:=h3;rw[jC (by unfold oe;rw[aaw,aab hb];simp[h3])];rfl
 have h3:l[b].ah≠0:=h3;have hI:oe l b 0=true:=by unfold oe;rw[aaw,aab hb];simp[h3,hb]
 have hL:∀r,(if l[b].ah≠2 then R4.no 11 else if(bJ.cG s).2.2≠0 then R4.no (bJ.cG s).2.2 else if(bJ.cG s).2.1=true/\aA=true then R4.no 14
  else Bt l b aA follow 6 (bJ.cG s).1 (if(bJ.cG s).2.1=true then 0 else b))=r->pq l b s aA follow=r:=fun r e=>by
  rw[pq,if_pos hI,aaw,sR hb];exact e
 refine ag hg ?_;refine br (fun h4=>?_) (fun h4=>?_)
 .rw[hL _ (if_pos h4)];rfl
 have h4:l[b].ah=2:=by simpa using h4
 rw[if_neg (by rw[h4];simp)]at hL
 refine bJ.wm s ?_;have hp:=pV s;generalize bJ.cG s=p at hp hL⊢;obtain⟨parts,au,er⟩:=p;have hp:parts.length<=61:=hp;refine br (fun h5=>?_) (fun h5=>?_)
 .rw[hL _ (if_pos h5)];rfl
 have h5:er=0:=by simpa using h5
 rw[if_neg (by simp[h5])]at hL
 have view:∀a0:Nat,∀e,iO (sg [0,1] 2) [Vy,sS l b aA 0 a0 parts] (fun k=>bq [] k=true) e (mg 102 [(0,Ab l),(4,ay follow),(10,.rv (.one (.ptr 0 0))),(15,.rv (.one (.ptr 1 0)))])->
   View 0 ⟨e,[Vy,sS l b aA 0 a0 parts]⟩ ⟨mg 102 [(0,Ab l),(4,ay follow),(10,.rv (.one (.ptr 0 0))),(15,.rv (.one (.ptr 1 0)))],[Vy,sS l b aA 0 a0 parts]⟩:=fun a0 e he=>
  View.o 2 [0,1] [] he (.pt rfl rfl (.eq rfl (by intro x;cases x)) (.pt rfl rfl (.eq rfl (ww _ _ _ _ _ _)) (.nil _)))
 cases au with
 |true=>
  cases aA with
  |true=>
   rw[hL _ (if_pos ⟨rfl,rfl⟩)];rfl
  |false=>
   rw[hL _ (by rw[if_neg aG,if_pos rfl])]
   refine⟨_,view 0 _ ?_,CK l ok b false follow 0 ok.pos parts hp⟩;repeat(first|exact .nil|refine .ap ?_|refine .eq rfl ?_)
 |false=>
  rw[hL _ (by rw[if_neg aG,if_neg aG])]
  refine⟨_,view b _ ?_,CK l ok b aA follow b hb parts hp⟩;repeat(first|exact .nil|refine .ap ?_|refine .eq rfl ?_)
theorem Ps(l:List Ob)(ok:na l)(ax:Int)(s:bJ.dN)(aA follow:Bool){m:Mem}{K:CV->Mem->Prop}(h:K (Tw (pq l ax s aA follow)) m):ar Tryz.prog 74 [Ab l,an .i64 ax,bJ.vT s,ay aA,ay follow] m K:=by
 refine bb (K0:=fun r _=>r=Tw (pq l ax s aA follow)) (cm Tryz.func74 l74 (Jk l ok ax s aA follow)) (by simp[Ab,an,ay,bJ.vT,eM,CV.dx,CC.dx]) fun r m1 hr=>?_
 subst hr;exact⟨_,cJ.self (Vx _),h⟩
theorem SC{es:List NE}(hs:EM es){s:ByteArray}(hf:Aq es s=false)(n:Int):iK (s,n) es=es.take (pT es s)++(s,n)::es.drop (pT es s):=by
 obtain⟨h0,h1,h2⟩:=ov hs s es.length 0 es.length om om om (fun k e hk=>absurd hk (aaL k)) (fun k e hk he=>by have:=(aac.1 he).1;omega)
 have hI:I7 es s es.length 0 es.length=pT es s:=rfl;rw[hI]at h0 h1 h2;have e1:∀e,e∈es.take (pT es s)->EN e.1 s=false:=fun e he=>by obtain⟨k,hk⟩:=aam he;have fP:=(aac.1 hk).1;rw[aaz]at fP;rw[aaK,if_pos om]at hk;have h3:=h1 k e om hk;unfold EN;unfold z8 at h3;rw[h3];rfl
 have:=Ch (x:=(s,n)) (a:=es.take (pT es s)) (b:=es.drop (pT es s)) e1;rw[abV]at this;rw[this];congr 1;cases hd:es.drop (pT es s)with
 |nil=>rfl
 |cons e r=>
  have mt:es[pT es s]? =some e:=by
   have:(es.drop (pT es s))[0]? =some e:=by rw[hd];rfl
   rw[aaZ]at this;simpa using this
  refine OY ?_;have h3:=h2 (pT es s) e (aaj _) mt;unfold Aq at hf;rw[mt]at hf;have eW:¬kV e.1 s=0:=by simpa using hf
  have eW:e.1.toList≠s.toList:=fun h=>eW (wn.2 h)
  show EN e.1 s=true;unfold EN;unfold z8 at h3;have h3:Op.bytesLess e.1.toList s.toList=false:=by simpa using h3
  rw[h3];simp[eW]
theorem y5{es:List NE}(hs:EM es)(s:ByteArray):(if Aq es s=true then(match es[pT es s]? with|some e=>e.2|none=>0)else -1)=fx es s:=t7 hs (Hs hs s) (ju es s)
def c72:LF:= ⟨20,[.tmp 2],(.seq (.ai [qu 1 (.box 0),qu 2 (.aD qe)]) (.seq (.ai [qu 3 (.aD qe)]) (.seq (.seq (.ai [qf 6 2 1,ql 7 6,qu 8 (.len 1 7),qu 9 (.aD (qi 0))]) (.block 0 (.loop (.seq (.ai [qu 10 (.aF .lss 9 8)]) (.seq (.cond 10 .skip (.exit 0)) (.seq (.block 1 (.seq (.ai [qu 11 (.bO 2 7 9),qL 12 2 11,qu 5 (.alloc [(.aa (.val (.string ⟨#[]⟩))),(qd 0)]),qw (.store 2 5 12)]) (.ai [qm 13 3,qf 14 0 5,ql 15 14,qu 16 (.mh 1 [(.aa (.val (.string ⟨#[]⟩)))] 1 [(0,15)]),qu 17 (.nO 1 16 13 16),qm 3 17]))) (.ai [qu 18 (.aF .add 9 (qi 1)),qm 9 18]))))))) (.seq (.ai [qm 19 3,qm 2 19]) .ret))))⟩
def c119:LF:= ⟨128,[.tmp 8,.tmp 9],(.seq (.ai [qu 8 (.aD qe),qu 9 (.aD (qi 0))]) (.seq (.block 0 (.seq (.ai [qm 14 1,qu 15 (.aF .lss 14 (qi 0)),qm 16 15,qg 17 (.aD 1) 16 false,qg 18 (.aD 0) 16 false,qg 19 (.len 1 18) 16 false,qg 20 (.aF .geq 17 19) 16 false,qu 21 (.pick 16 (qb true) 20),qm 22 21,qg 23 (.aD 0) 22 false,qg 24 (.aD 1) 22 false,qg 25 (.bO 9 23 24) 22 false,qg 26 (.bg 0 25) 22 false,qg 27 (.load false 1 26) 22 false,qg 28 (.aF .eql 27 (qi 0)) 22 false,qu 29 (.pick 22 (qb true) 28),qm 30 29,qg 31 (.aD 3) 30 false,qg 32 (.aF .lss 31 (qi 0)) 30 false,qu 33 (.pick 30 (qb true) 32),qm 34 33,qg 35 (.aD 3) 34 false,qg 36 (.aD 0) 34 false,qg 37 (.len 1 36) 34 false,qg 38 (.aF .geq 35 37) 34 false,qu 39 (.pick 34 (qb true) 38),qm 40 39,qg 41 (.aD 0) 40 false,qg 42 (.aD 3) 40 false,qg 43 (.bO 9 41 42) 40 false,qg 44 (.bg 0 43) 40 false,qg 45 (.load false 1 44) 40 false,qg 46 (.aF .eql 45 (qi 0)) 40 false,qu 47 (.pick 40 (qb true) 46),qm 13 47]) (.cond 13 (.seq (.ai [qu 8 (.aD qe),qu 9 (.aD (qi 6))]) .ret) (.seq (.ai [qm 49 0,qm 50 1,qu 51 (.bO 9 49 50),qf 52 0 51,ql 53 52,qu 54 (.aF .neq 53 (qi 2)),qm 48 54]) (.cond 48 (.seq (.ai [qu 8 (.aD qe),qu 9 (.aD (qi 11))]) .ret) (.seq (.ai [qm 56 0,qm 57 1,qu 58 (.bO 9 56 57),qf 59 7 58,ql 60 59,qu 61 (.aF .eql 60 (qi 0)),qm 55 61]) (.cond 55 (.seq (.ai [qu 8 (.aD qe),qu 9 (.aD (qi 6))]) .ret) (.seq (.ai [qm 63 2,qu 64 (qc 113 [63]),qu 65 (.un .not 64),qm 66 65,qg 67 (.aD 0) 66 false,qg 68 (.aD 1) 66 false,qg 69 (.aD 2) 66 false,qg 70 (qc 115 [67,68,69]) 66 false,qg 71 (.aF .geq 70 (qi 0)) 66 false,qu 72 (.pick 66 (qb true) 71),qm 62 72]) (.cond 62 (.seq (.ai [qu 8 (.aD qe),qu 9 (.aD (qi 7))]) .ret) (.seq (.ai [qm 74 0,qm 75 1,qu 76 (.bO 9 74 75),qf 77 2 76,ql 78 77,qu 79 (.len 1 78),qu 80 (.aF .geq 79 (qi 8)),qm 73 80]) (.cond 73 (.seq (.ai [qu 8 (.aD qe),qu 9 (.aD (qi 15))]) .ret) .skip))))))))))) (.seq (.ai [qm 81 0,qu 82 (qc 105 [81]),qm 10 82]) (.seq (.ai [qm 84 10,qm 85 1,qu 86 (.bO 9 84 85),qf 87 2 86,ql 88 87,qm 89 2,qu 90 (qc 141 [88,89,(.c (.rv (.one (.fn 146 []))))]),qm 83 90,qu 91 (.ext 83 0),qu 92 (.ext 83 1),qm 11 91,qm 12 92]) (.seq (.ai [qm 93 10,qm 94 1,qm 95 10,qm 96 1,qu 97 (.bO 9 95 96),qf 98 2 97,ql 99 98,qm 100 11,qm 101 2,qm 102 3,qu 103 (.build [(.aa (.val (.string ⟨#[]⟩))),(qd 0)] [(0,1,101),(1,1,102)]),qu 104 (.mh 2 [(.aa (.val (.string ⟨#[]⟩))),(qd 0)] 1 [(0,103)]),qu 105 (qc 147 [99,100,104]),qu 106 (.bO 9 93 94),qf 107 2 106,qw (.store 1 107 105)]) (.seq (.ai [qm 108 10,qm 109 3,qu 110 (.bO 9 108 109),qf 111 7 110,ql 112 111,qu 113 (.aF .add 112 (qi 1)),qu 114 (.bO 9 108 109),qf 115 7 114,qw (.store 1 115 113)]) (.seq (.seq (.ai [qm 116 10,qm 117 3,qu 118 (.bO 9 116 117),qf 119 0 118,ql 120 119,qu 121 (.aF .eql 120 (qi 2))]) (.cond 121 (.ai [qm 122 10,qm 123 3,qm 124 1,qu 125 (.bO 9 122 123),qf 126 8 125,qw (.store 1 126 124)]) .skip)) (.cO (.seq (.ai [qm 127 10,qm 8 127,qu 9 (.aD (qi 0))]) .ret)))))))))⟩
def c147:LF:= ⟨95,[.tmp 6],(.seq (.ai [qu 6 (.aD qe)]) (.seq (.ai [qm 10 0,qm 11 1,qu 12 (.nN 2 10 (some 11) none none)]) (.seq (.ai [qm 13 2,qu 14 (.len 1 13),qm 7 14]) (.seq (.seq (.ai [qm 15 7,qu 16 (.aF .eql 15 (qi 0))]) (.cond 16 (.seq (.ai [qm 17 0,qm 6 17]) .ret) .skip)) (.seq (.ai [qm 18 0,qu 19 (.len 1 18),qm 8 19]) (.seq (.seq (.ai [qm 20 1,qm 21 8,qu 22 (.aF .eql 20 21)]) (.cond 22 (.seq (.ai [qm 23 0,qm 24 2,qu 25 (.nO 2 24 23 24),qm 6 25]) .ret) .skip)) (.seq (.seq (.ai [qm 26 8,qm 27 7,qu 28 (.aF .add 26 27),qm 29 0,qu 30 (.jA true []),qu 31 (.aF .gtr 28 30)]) (.cond 31 (.seq (.ai [qm 32 0,qm 33 1,qu 34 (.nN 2 32 none (some 33) none),qm 35 8,qm 36 7,qu 37 (.aF .add 35 36),qm 38 1,qu 39 (.aF .sub 37 38),qu 40 (.jA true []),qm 9 40]) (.seq (.ai [qm 41 9,qm 42 1,qu 43 (.nN 2 41 (some 42) none none),qm 44 2,qu 45 (.copy 2 43 44)]) (.seq (.bQ [qm 46 9,qm 47 1,qm 48 7,qu 49 (.aF .add 47 48),qu 50 (.nN 2 46 (some 49) none none),qm 51 0,qm 52 1,qu 53 (.nN 2 51 (some 52) none none),qu 54 (.copy 2 50 53)] [(.cons 0 none (.cons 1 none (.cons 2 none (.cons 3 none (.cons 4 none (.cons 5 none (.cons 6 none (.cons 7 none (.cons 8 (some []) .nil)))))))))]) (.seq (.ai [qm 55 9,qm 6 55]) .ret)))) .skip)) (.seq (.ai [qm 56 0,qm 57 8,qm 58 7,qu 59 (.aF .add 57 58),qu 60 (.nN 2 56 none (some 59) none),qm 0 60]) (.seq (.seq (.ai [qm 61 2,qm 62 0,qm 63 1,qm 64 7,qu 65 (.aF .add 63 64),qu 66 (.nN 2 62 (some 65) none none),qu 67 (qc 158 [61,66]),qu 68 (.un .not 67)]) (.cond 68 (.seq (.bQ [qm 69 0,qm 70 1,qm 71 7,qu 72 (.aF .add 70 71),qu 73 (.nN 2 69 (some 72) none none),qm 74 0,qm 75 1,qu 76 (.nN 2 74 (some 75) none none),qu 77 (.copy 2 73 76)] [(.cons 0 none (.cons 1 none (.cons 2 none (.cons 3 none (.cons 4 none (.cons 5 none (.cons 6 none (.cons 7 none (.cons 8 (some []) .nil)))))))))]) (.seq (.ai [qm 78 0,qm 79 1,qu 80 (.nN 2 78 (some 79) none none),qm 81 2,qu 82 (.copy 2 80 81)]) (.seq (.ai [qm 83 0,qm 6 83]) .ret))) .skip)) (.seq (.ai [qm 84 0,qm 85 8,qu 86 (.nN 2 84 (some 85) none none),qm 87 2,qu 88 (.copy 2 86 87)]) (.seq (.ai [qm 89 0,qm 90 1,qu 91 (.nN 2 89 (some 90) none none),qm 92 7,qu 93 (qc 159 [91,92])]) (.seq (.ai [qm 94 0,qm 6 94]) .ret))))))))))))⟩
theorem l72:bs Tryz.prog Tryz.f72=some c72:=by kernel_rfl
theorem l147:bs Tryz.prog Tryz.f147=some c147:=by kernel_rfl
theorem l119:bs Tryz.prog Tryz.f119=some c119.er:=by kernel_rfl
def Xj(e:ByteArray×Int):List Dt:=[.val (.string e.1)]
theorem Fu(o:Obj)(es:List (ByteArray×Int))(he:o.ak=es.map cZ)(hl:es.length<=4194304):body Tryz.prog c72 [o.cv] [] (fun r m=>cJ m r (rd 1 (es.map Xj))):=by
 obtain⟨ah,data,ak,target,aJ,aj,aL,am,up⟩:=o;have he:ak=es.map cZ:=he;subst he;refine aO (fun k=>k<=es.length) [7,8] (fun k=>[(9,an .i64 (k:Nat)),(3,.rv (.one (.row 0 1 0 none)))]) (fun k=>[.row 1 (af ((es.take k).map Xj))]) (fun k=>es.length-k) 0 (aao _) ?_ (fun k hk=>?_)
 .refine View.trans (View.aI 3 1 1 rfl rfl rfl) (View.o1 2 [1] [] ?_)
  .exact .pn rfl rfl rfl
 have hk:k<=es.length:=hk;refine aB (fun h=>?_) (fun h=>?_)
 .have aC:k<es.length:=by have h:(k:Int)<((es.map cZ).length:Int):=h;rw[aad]at h;omega
  refine ag (ou aC) ?_;refine⟨by simp[cw,af];omega,?_⟩
  refine⟨k+1,aC,(show es.length-(k+1)<es.length-k by omega),View.o 4 [3] [] ?_ ?_⟩
  .repeat(first|exact .nil|refine .ap ?_|refine .put (.aQ (aq om).symm) ?_|refine .eq rfl ?_)
  .refine .pt rfl rfl (.bV ?_) (.nil _);rw[ph (aab aC),aaU,cD];rfl
 .have Ac:k=es.length:=by have h:¬(k:Int)<((es.map cZ).length:Int):=h;rw[aad]at h;omega
  subst Ac;rw[aaO];exact .rv (.one (eI.eE rfl 0 none))
theorem MM(o:Obj)(es:List (ByteArray×Int))(he:o.ak=es.map cZ)(hl:es.length<=4194304){m:Mem}{K:CV->Mem->Prop}(h:K (rd 1 (es.map Xj)) m):ar Tryz.prog 72 [o.cv] m K:=
 bb (aZ Tryz.func72 l72 (Fu o es he hl)) (by simp[Obj.cv,Obj.enc,CV.dx,CC.dx,RV.dx]) fun r m1 hf=>⟨_,hf,h⟩
theorem MN(S:List (List Dt))(e:List Dt)(hl:S.length<=4194304):body Tryz.prog c147 [.rv (.one (.row 0 2 0 none)),an .i64 (S.length:Nat),.rv (.one (.row 1 2 0 none))] [.row 2 (af S),.row 2 (af [e])]
  (fun r m=>r= .rv (.one (.row 2 2 0 none))/\m=[.bh,.bh,.row 2 (af (S++ [e]))]):=by
 have hlen:lenOf (af S).length 0 none=S.length:=dR S;refine cF (by show(Nat.ble S.length (lenOf (af S).length 0 none)&&Nat.ble (lenOf (af S).length 0 none) ((af S).length-0))=true;rw[hlen,dR];simp[aaR]) ?_
 refine bH (fun h=>?_) (fun h=>?_)
 .refine⟨by simp[cw,af];omega,rfl,?_⟩
  show [Bk.bh,.bh,.row 2 (cw (af S) 0 none++cw (af [e]) 0 none)]=_;simp[cw,af]
 .exfalso;apply h;show((S.length:Nat):Int)=((lenOf (af S).length 0 none:Nat):Int);rw[hlen]
theorem SD(S:List (List Dt))(e:List Dt)(hl:S.length<=4194304){m:Mem}{K:CV->Mem->Prop}(a b:Nat)(DH:gp [a,b]=true)(aC:fm m.length [a,b]=true)(ha:df m a=some (.row 2 (af S)))(hb:df m b=some (.row 2 (af [e])))(h:K (.rv (.one (.row m.length 2 0 none))) (dn m [a,b] [.bh,.bh,.row 2 (af (S++ [e]))])):ar Tryz.prog 147 [.rv (.one (.row a 2 0 none)),an .i64 (S.length:Nat),.rv (.one (.row b 2 0 none))] m K:=by
 refine bC [a,b] m.length rfl rfl DH aC (args0:=[.rv (.one (.row 0 2 0 none)),an .i64 (S.length:Nat),.rv (.one (.row 1 2 0 none))]) rfl (m0:=[.row 2 (af S),.row 2 (af [e])]) (fun i b' hi=>?_) (aZ Tryz.func147 l147 (MN S e hl)) (fun r1 m1 hr=>?_)
 .match i,hi with
  |0,hi=>cases hi;exact .inr ⟨fun h=>h,_,by rw[aX]at ha;exact ha,.bV rfl⟩
  |1,hi=>cases hi;exact .inr ⟨fun h=>h,_,by rw[aX]at hb;exact hb,.bV rfl⟩
  |n+2,hi=>simp at hi
 .obtain⟨rfl,rfl⟩:=hr;refine⟨aG,?_⟩;show K (.rv (.one (.row (m.length+(2-2)) 2 0 none))) (dn m [a,b] [.bh,.bh,.row 2 ((af (S++ [e])).map (fun cs=>cs.map (CC.aQ (sg [a,b] m.length))))])
  rw[gU];exact h
def Y9:LC:=Y7 (mH (mH (mH (mH (mH (mH (mH c119.code)))))))
end Go.Proofs.YtojhmadmlnfpcaaGreatDoor
