/- Part 27 of 39: what the law stands on. -/
import Derived.Test.YtodckkkbiidffaaGreatDoorT16
import Derived.Test.YtodckkkbiidffaaGreatDoorT18
import Derived.Test.YtodckkkbiidffaaGreatDoorT25
import Derived.Test.YtodckkkbiidffaaGreatDoorT26
import Derived.Shelf.Spec.SlicesInsert
import Derived.Lib.AppendZerosOnto
import Derived.Laws.NewBlocks
set_option linter.unusedVariables false
set_option linter.unusedSimpArgs false
set_option linter.unnecessarySimpa false
set_option maxRecDepth 100000
set_option maxHeartbeats 64000000
namespace Go.Proofs.YtodckkkbiidffaaGreatDoor
open Go.AM Go.ChangeShapes Go.WideShapes Go.ChangeAt Go.RowKit
def c107:LF:= ⟨118,[.cell true 3 4,.tmp 5,.tmp 6],(.seq (.ai [qu 4 (.alloc [(qd 0),(qd 0),(.aa (.val (.string ⟨#[]⟩)))]),qu 5 (.aF (qb false)),qu 6 (.aF (qi 0))]) (.seq (.ai [qm 10 0,qu 11 (.aT 10),qf 12 5 11,ql 13 12,qu 14 (.cr 1 13 (qi 0)),ql 15 14,qm 7 15]) (.seq (.ai [qm 16 0,qm 17 0,qu 18 (.aT 17),qf 19 5 18,ql 20 19,qu 21 (.mD 1 20 (some (qi 1)) none none),qu 22 (.aT 16),qf 23 5 22,qw (.store 1 23 21)]) (.seq (.seq (.bU [qm 24 0,qu 25 (.aT 24),qf 26 0 25,ql 27 26,qm 28 0,qu 29 (.aT 28),qf 30 4 29,ql 31 30,qu 32 (.cr 9 27 31),qf 33 0 32,ql 34 33,qu 35 (.aH .neq 34 (qi 2))] [(.cons 0 none (.cons 1 none (.cons 2 none (.cons 3 none (.cons 4 none (.cons 5 none (.cons 6 none (.cons 7 none (.cons 8 none (.cons 9 none (.cons 10 none (.cons 11 none .nil))))))))))))]) (.cond 35 (.seq (.ai [qu 36 (.build [(qd 0),(qd 0),(.aa (.val (.string ⟨#[]⟩)))] []),qw (.store 3 4 36),qu 5 (.aF (qb false)),qu 6 (.aF (qi 11))]) .ret) .skip)) (.seq (.seq (.ai [qm 37 7,qu 38 (.aH .eql 37 (.c (.rv (.one (.aa (.val (.string ⟨#[46,46]⟩)))))))]) (.cond 38 (.seq (.seq (.ai [qm 39 0,qu 40 (qc 132 [39]),qu 41 (.un .not 40)]) (.cond 41 (.seq (.ai [qu 42 (.build [(qd 0),(qd 0),(.aa (.val (.string ⟨#[]⟩)))] []),qw (.store 3 4 42),qu 5 (.aF (qb false)),qu 6 (.aF (qi 14))]) .ret) .skip)) (.seq (.ai [qu 43 (.build [(qd 0),(qd 0),(.aa (.val (.string ⟨#[]⟩)))] []),qw (.store 3 4 43),qu 5 (.aF (qb false)),qu 6 (.aF (qi 0))]) .ret)) .skip)) (.seq (.bU [qm 44 0,qu 45 (.aT 44),qf 46 0 45,ql 47 46,qm 48 0,qu 49 (.aT 48),qf 50 4 49,ql 51 50,qm 52 7,qu 53 (qc 108 [47,51,52]),qm 8 53] [(.cons 0 none (.cons 1 none (.cons 2 none (.cons 3 none (.cons 4 none (.cons 5 none (.cons 6 none (.cons 7 none (.cons 8 none (.cons 9 (some []) (.cons 10 none .nil)))))))))))]) (.seq (.ai [qm 54 0,qu 55 (.aT 54),qf 56 5 55,ql 57 56,qu 58 (.len 1 57),qu 59 (.aH .eql 58 (qi 0)),qm 9 59]) (.seq (.block 0 (.seq (.ai [qm 61 8,qu 62 (.aH .lss 61 (qi 0)),qm 63 62,qg 64 (.aF 9) 63 true,qu 65 (.pick 63 64 (qb false)),qm 60 65]) (.cond 60 (.seq (.ai [qm 66 0,qu 67 (.aT 66),qf 68 4 67,ql 69 68,qm 70 7,qu 71 (.build [(qd 0),(qd 0),(.aa (.val (.string ⟨#[]⟩)))] [(0,1,(qi (-1))),(1,1,69),(2,1,70)]),qw (.store 3 4 71),qu 5 (.aF (qb true)),qu 6 (.aF (qi 0))]) .ret) (.seq (.ai [qm 73 8,qu 74 (.aH .lss 73 (qi 0)),qm 72 74]) (.cond 72 (.seq (.ai [qu 75 (.build [(qd 0),(qd 0),(.aa (.val (.string ⟨#[]⟩)))] []),qw (.store 3 4 75),qu 5 (.aF (qb false)),qu 6 (.aF (qi 6))]) .ret) (.seq (.ai [qm 77 0,qu 78 (.aT 77),qf 79 0 78,ql 80 79,qm 81 8,qu 82 (.cr 9 80 81),qf 83 0 82,ql 84 83,qu 85 (.aH .eql 84 (qi 3)),qm 86 85,qg 87 (.aF 9) 86 true,qg 88 (.un .not 87) 86 true,qg 89 (.aF 88) 86 true,qg 90 (.aF 1) 89 false,qg 91 (.pick 89 (qb true) 90) 86 true,qu 92 (.pick 86 91 (qb false)),qm 76 92]) (.cond 76 (.seq (.ai [qu 93 (.build [(qd 0),(qd 0),(.aa (.val (.string ⟨#[]⟩)))] []),qm 94 0,qm 95 0,qu 96 (.aT 95),qf 97 0 96,ql 98 97,qm 99 8,qu 100 (.cr 9 98 99),qf 101 3 100,ql 102 101,qu 103 (qc 133 [94,102]),qw (.store 3 4 93),qu 5 (.aF (qb false)),qm 6 103]) .ret) (.seq (.ai [qm 105 9,qm 104 105]) (.cond 104 (.seq (.ai [qm 106 8,qm 107 0,qu 108 (.aT 107),qf 109 4 108,ql 110 109,qm 111 7,qu 112 (.build [(qd 0),(qd 0),(.aa (.val (.string ⟨#[]⟩)))] [(0,1,106),(1,1,110),(2,1,111)]),qw (.store 3 4 112),qu 5 (.aF (qb true)),qu 6 (.aF (qi 0))]) .ret) .skip))))))))) (.seq (.ai [qm 113 0,qm 114 8,qu 115 (.aT 113),qf 116 4 115,qw (.store 1 116 114)]) (.seq (.ai [qu 117 (.build [(qd 0),(qd 0),(.aa (.val (.string ⟨#[]⟩)))] []),qw (.store 3 4 117),qu 5 (.aF (qb false)),qu 6 (.aF (qi 0))]) .ret))))))))))⟩
theorem l107:bs Tryz.prog Tryz.f107=some c107:=by kernel_rfl
def Jz(l:List Ob)(au:Nat)(ax follow:Bool):Nat->Nat->List bp.cQ->Nat->R4
 |0=>fun _ _ _=>R4.no 13
 |n+1=>K3 l ax (wB l au ax follow n)
theorem Pm(l:List Ob)(au:Nat)(ax follow:Bool)(n:Nat):wB l au ax follow n=Ad l au ax follow (Jz l au ax follow n):=by
 cases n<;>rfl
def Qn(r:R4):List Dt:=[.val (.int .i64 r.br),.val (.int .i64 r.cD),.val (.string (bp.b7 r.name))]
def Wd(r:R4)(ok:Bool):CV:= .bF [.agg ((Qn r).map .aa),.one (.aa (.val (.bool ok))),.one (.aa (.val (.int .i64 r.f4)))]
inductive NP(l:List Ob)(au:Nat)(ax follow:Bool)(h a:Nat)(s:bp.cQ)(t:List bp.cQ):CV->Nat->Nat->List bp.cQ->Prop
 |done (r:R4) (ok:Bool) (h' a':Nat) (t':List bp.cQ) (hd:ok=true\/r.f4≠0) (he:wB l au ax follow (6-h) (s::t) a=r):NP l au ax follow h a s t (Wd r ok) h' a' t'
 |go (h' a':Nat) (t':List bp.cQ) (he:wB l au ax follow (6-h) (s::t) a=wB l au ax follow (6-h') t' a') (ha:a'<l.length) (hm:h'=h/\t'=t\/h'=h+1/\h<6/\t'.length<=61+t.length):NP l au ax follow h a s t (Wd (R4.no 0) false) h' a' t'
theorem NP.data{l:List Ob}{au:Nat}{ax follow:Bool}{h a:Nat}{s:bp.cQ}{t:List bp.cQ}{r:CV}{h' a':Nat}{t':List bp.cQ}(x:NP l au ax follow h a s t r h' a' t')(σ:Nat->Nat):r.aQ σ=r:=by cases x<;>rfl
theorem Gm(t:List bp.cQ):((t.map bp.tD).length:Int)=t.length:=by rw[KB]
theorem Gn(l:List Ob)(ok:lT l)(au:Nat)(ax follow:Bool)(h a:Nat)(hh:h<=6)(ha:a<l.length)(s:bp.cQ)(t:List bp.cQ)(ht:t.length<=1000):
  body Tryz.prog c107 [.rv (.one (.ptr 0 0)),ay follow] [q8 l au ax h a (s::t)] (Yg fun r m=>∃h' a' t',m=[q8 l au ax h' a' t']/\NP l au ax follow h a s t r h' a' t'):=by
 have hg:=ln ha;have hw:=Pm l au ax follow (6-h);have hS:∀r,Ad l au ax follow (Jz l au ax follow (6-h)) (s::t) a=r->wB l au ax follow (6-h) (s::t) a=r:=fun r e=>by rw[hw];exact e
 refine cj (by rw[SD,aak,aak,KB,Wo];exact⟨Nat.succ_le_succ (Wi _),Pq _⟩) ?_
 rw[show List.drop 1 (List.take (List.map bp.tD (s::t)).length (List.map bp.tD (s::t)))=t.map bp.tD by rw[aal];rfl]
 refine ag hg ?_;refine bt (fun h1=>?_) (fun h1=>?_)
 .exact⟨_,_,Gk (fun _=>rfl),_,_,_,rfl,.done (R4.no 11) false _ _ _ (.inr (by simp[R4.no])) (hS _ (by rw[Ad,if_pos (by rw[q0 ha];exact h1)]))⟩
 have h1:l[a].ah=2:=by simpa using h1
 have oh:¬(iT l a).ah≠2:=by rw[q0 ha,h1];simp
 refine bp.jG (b:=[46,46]) (fun h2=>?_) (fun h2=>?_)
 .subst h2;refine Sv l ok au ax h a ha t 0 rfl (fun h3=>?_) (fun h3=>?_)
  .exact⟨_,_,Gk (fun _=>rfl),_,_,_,rfl,.done (R4.no 14) false _ _ _ (.inr (by simp[R4.no])) (hS _ (by rw[Ad,if_neg oh,if_pos rfl,if_pos h3]))⟩
  .exact⟨_,_,Gk (fun _=>rfl),_,_,_,rfl,.go h (x8 l a) t (hS _ (by rw[Ad,if_neg oh,if_pos rfl,if_neg h3,hw])) (ok.Pf a) (.inl ⟨rfl,rfl⟩)⟩
 refine Jv l ok a ha h1 s ?_;refine⟨trivial,?_⟩;have hf:=ok.Pg a s;have Sq:jH l a s<0->jH l a s= -1:=fun h=>by
  rcases iA (gG (iT l a)) (bp.b7 s)with⟨e,he,_,h3⟩|⟨h3,_⟩
  .have:=(ok.dF a).2.1 e he;rw[jH,h3]at h;omega
  .exact h3
 have hW:∀r,(if jH l a s<0 then(if t≠[]then R4.no 6 else⟨-1,a,s,0⟩)else if(iT l (jH l a s).toNat).ah=3/\(follow=true\/t≠[])then Jz l au ax follow (6-h) a t (jH l a s).toNat
  else if t=[]then⟨jH l a s,a,s,0⟩else Ad l au ax follow (Jz l au ax follow (6-h)) t (jH l a s).toNat)=r->wB l au ax follow (6-h) (s::t) a=r:=fun r e=>hS r (by rw[Ad,if_neg oh,if_neg h2];exact e)
 refine aJ (fun h3=>?_) (fun h3=>?_)
 .refine bA (fun h4=>?_) (fun h4=>?_)
  .rw[Gm]at h4;have h4:t=[]:=Wg om;exact⟨_,_,Gk (fun _=>rfl),_,_,_,rfl,.done ⟨-1,a,s,0⟩ true _ _ _ (.inl rfl) (hW _ (by rw[if_pos h3,if_neg (by simp[h4])]))⟩
  .rw[Gm]at h4;have h4:t≠[]:=fun e=>h4 (by rw[e];rfl)
   refine cj (decide_eq_true h3) ?_;exact⟨_,_,Gk (fun _=>rfl),_,_,_,rfl,.done (R4.no 6) false _ _ _ (.inr (by simp[R4.no])) (hW _ (by rw[if_pos h3,if_pos h4]))⟩
 obtain⟨k,RL,hk⟩:=hf h3;rw[if_neg h3]at hW;refine tJ (decide_eq_false h3) ?_;rw[RL,Wk,q0 hk]at hW;have Pn:=ln hk;have htg:l[k].target=bp.b7 (Jo l k):=by obtain⟨tg,e⟩:=bp.x5 l[k].target;rw[Jo,q0 hk,e];rfl
 rw[htg]at Pn;rw[RL];have Sy:¬(l[k].ah=3/\(follow=true\/t≠[]))->∀r,(if t=[]then⟨(k:Int),a,s,0⟩else Ad l au ax follow (Jz l au ax follow (6-h)) t k)=r->wB l au ax follow (6-h) (s::t) a=r:=fun hn r e=>hW r (by rw[if_neg hn];exact e)
 refine ag Pn ?_;refine bA (fun h6=>?_) (fun h6=>?_)
 .have h6:l[k].ah=3:=h6;have Sz:(follow=true\/t≠[])->∀r h' a' t',K4 (bp.cm (Jo l k)) ax h a t r h' a' t'->∃e,r=an .i64 e/\NP l au ax follow h a s t (Wd (R4.no e) false) h' a' t':=by
   intro QT;rw[if_pos ⟨h6,QT⟩]at hW;intro r h' a' t' hq;cases hq with
   |loop _ _ _ e6=>exact⟨13,rfl,.done (R4.no 13) false _ _ _ (.inr (by simp[R4.no])) (hW _ (by rw[e6];rfl))⟩
   |f4 _ _ _ e6 he=>exact⟨_,rfl,.done (R4.no _) false _ _ _ (.inr he) (hW _ (by rw[show 6-h=(5-h)+1 by omega];show K3 _ _ _ _ _ _=_;rw[K3,if_pos he]))⟩
   |out _ _ _ e6 he hr hf'=>exact⟨14,rfl,.done (R4.no 14) false _ _ _ (.inr (by simp[R4.no])) (hW _ (by rw[show 6-h=(5-h)+1 by omega];show K3 _ _ _ _ _ _=_;rw[K3,if_neg (by simp[he]),if_pos ⟨hr,hf'⟩]))⟩
   |ok e6 he hr=>exact⟨0,rfl,.go _ _ _ (hW _ (by rw[show 6-h=(5-h)+1 by omega];show K3 _ _ _ _ _ _=_;rw[K3,if_neg (by simp[he]),if_neg hr,show 6-(h+1)=5-h by omega])) (by split;exact ok.pos;exact ha) (.inr ⟨rfl,om,by rw[aaH];have:=oC (Jo l k);omega⟩)⟩
  refine aD (fun h5=>?_) (fun h5=>?_)
  .have h5:t≠[]:=fun e=>by subst e;cases h5
   refine ag Pn ?_;refine EK l au ax h a hh t ht (Jo l k) 0 rfl fun r h' a' t' hq=>?_
   obtain⟨e,rfl,K2⟩:=Sz (.inr h5) _ _ _ _ hq;exact⟨_,_,Gk (fun _=>rfl),_,_,_,rfl,K2⟩
  .have h5:t=[]:=by
    cases t with
    |nil=>rfl
    |cons x r=>cases h5
   cases follow with
   |true=>
    refine ag Pn ?_;refine EK l au ax h a hh t ht (Jo l k) 0 rfl fun r h' a' t' hq=>?_
    obtain⟨e,rfl,K2⟩:=Sz (.inl rfl) _ _ _ _ hq;exact⟨_,_,Gk (fun _=>rfl),_,_,_,rfl,K2⟩
   |false=>
    have iu:=Sy (by rw[h5];simp)
    rw[if_pos h5]at iu;subst h5;exact⟨_,_,Gk (fun _=>rfl),_,_,_,rfl,.done ⟨(k:Nat),a,s,0⟩ true _ _ _ (.inl rfl) (iu _ rfl)⟩
 .have h6:l[k].ah≠3:=h6;have iu:=Sy (fun h=>h6 h.1)
  refine bA (fun h7=>?_) (fun h7=>?_)
  .rw[Gm]at h7;have h7:t=[]:=Wg om;rw[if_pos h7]at iu;exact⟨_,_,Gk (fun _=>rfl),_,_,_,rfl,.done ⟨(k:Nat),a,s,0⟩ true _ _ _ (.inl rfl) (iu _ rfl)⟩
  .rw[Gm]at h7;have h7:t≠[]:=fun e=>h7 (by rw[e];rfl)
   rw[if_neg h7,<-hw]at iu;exact⟨_,_,Gk (fun _=>rfl),_,_,_,rfl,.go h k t (iu _ rfl) hk (.inl ⟨rfl,rfl⟩)⟩
theorem Me(l:List Ob)(ok:lT l)(au:Nat)(ax follow:Bool)(h a:Nat)(hh:h<=6)(ha:a<l.length)(s:bp.cQ)(t:List bp.cQ)(ht:t.length<=1000){m:Mem}(id:Nat)(hb:cR m id=some (q8 l au ax h a (s::t))){K:CV->Mem->Prop}(hK:∀r h' a' t',NP l au ax follow h a s t r h' a' t'->K r (aZ m id (q8 l au ax h' a' t'))):aq Tryz.prog 107 [.rv (.one (.ptr id 0)),ay follow] m K:=
 Jy (args:=[ay follow]) (fun _=>rfl) (Q:=NP l au ax follow h a s t) (fun r h a t hq σ=>hq.data σ)
  (bK (aX Tryz.func107 l107 (Gn l ok au ax follow h a hh ha s t ht)) fun r m1⟨r',m',hv,hq⟩=>⟨r',m',hv,hq⟩) id hb hK
def c67:LF:= ⟨102,[.cell true 3 10,.tmp 11],(.seq (.ai [qu 10 (.alloc [(qd 0),(qd 0),(.aa (.val (.string ⟨#[]⟩)))]),qu 11 (.aF (qi 0))]) (.seq (.seq (.ai [qm 19 1,qu 20 (.aH .lss 19 (qi 0)),qm 21 20,qg 22 (.aF 1) 21 false,qg 23 (.aF 0) 21 false,qg 24 (.len 1 23) 21 false,qg 25 (.aH .geq 22 24) 21 false,qu 26 (.pick 21 (qb true) 25),qm 27 26,qg 28 (.aF 0) 27 false,qg 29 (.aF 1) 27 false,qg 30 (.cr 9 28 29) 27 false,qg 31 (.bX 0 30) 27 false,qg 32 (.load false 1 31) 27 false,qg 33 (.aH .eql 32 (qi 0)) 27 false,qu 34 (.pick 27 (qb true) 33)]) (.cond 34 (.seq (.ai [qu 35 (.build [(qd 0),(qd 0),(.aa (.val (.string ⟨#[]⟩)))] []),qw (.store 3 10 35),qu 11 (.aF (qi 6))]) .ret) .skip)) (.seq (.seq (.ai [qm 36 0,qm 37 1,qu 38 (.cr 9 36 37),qf 39 0 38,ql 40 39,qu 41 (.aH .neq 40 (qi 2))]) (.cond 41 (.seq (.ai [qu 42 (.build [(qd 0),(qd 0),(.aa (.val (.string ⟨#[]⟩)))] []),qw (.store 3 10 42),qu 11 (.aF (qi 11))]) .ret) .skip)) (.seq (.ai [qm 44 2,qu 45 (qc 66 [44]),qm 43 45,qu 46 (.ext 43 0),qu 47 (.ext 43 1),qu 48 (.ext 43 2),qm 12 46,qm 13 47,qm 14 48]) (.seq (.seq (.ai [qm 49 14,qu 50 (.aH .neq 49 (qi 0))]) (.cond 50 (.seq (.ai [qu 51 (.build [(qd 0),(qd 0),(.aa (.val (.string ⟨#[]⟩)))] []),qm 52 14,qw (.store 3 10 51),qm 11 52]) .ret) .skip)) (.seq (.ai [qm 53 0,qm 54 1,qm 55 3,qm 56 1,qm 57 12,qu 58 (.build [.aB,(qd 0),(.aa (.val (.bool false))),(qd 0),(qd 0),.aB] [(0,1,53),(1,1,54),(2,1,55),(4,1,56),(5,1,57)]),qu 59 (.box 58),qm 15 59]) (.seq (.seq (.ai [qm 60 13]) (.cond 60 (.seq (.seq (.ai [qm 61 3]) (.cond 61 (.seq (.ai [qu 62 (.build [(qd 0),(qd 0),(.aa (.val (.string ⟨#[]⟩)))] []),qw (.store 3 10 62),qu 11 (.aF (qi 14))]) .ret) .skip)) (.ai [qm 63 15,qu 64 (.aT 63),qf 65 4 64,qw (.store 1 65 (qi 0))])) .skip)) (.cI (.seq (.block 0 (.loop (.seq (.seq (.ai [qm 66 15,qu 67 (.aT 66),qf 68 5 67,ql 69 68,qu 70 (.len 1 69),qu 71 (.aH .gtr 70 (qi 0))]) (.cond 71 .skip (.exit 0))) (.block 1 (.seq (.ai [qm 73 15,qm 74 4,qu 75 (qc 107 [73,74]),qm 72 75,qu 76 (.ext 72 0),qu 77 (.ext 72 1),qu 78 (.ext 72 2),qu 16 (.alloc [(qd 0),(qd 0),(.aa (.val (.string ⟨#[]⟩)))]),qw (.store 3 16 76),qm 17 77,qm 18 78]) (.seq (.ai [qm 79 17,qm 80 79,qg 81 (.aF 18) 80 false,qg 82 (.aH .neq 81 (qi 0)) 80 false,qu 83 (.pick 80 (qb true) 82)]) (.cond 83 (.seq (.ai [qL 84 3 16,qm 85 18,qw (.store 3 10 84),qm 11 85]) .ret) .skip))))))) (.seq (.bU [qm 86 15,qu 87 (.aT 86),qf 88 4 87,ql 89 88,qm 90 15,qu 91 (.aT 90),qf 92 0 91,ql 93 92,qm 94 15,qu 95 (.aT 94),qf 96 4 95,ql 97 96,qu 98 (.cr 9 93 97),qf 99 8 98,ql 100 99,qu 101 (.build [(qd 0),(qd 0),(.aa (.val (.string ⟨#[]⟩)))] [(0,1,89),(1,1,100)]),qw (.store 3 10 101),qu 11 (.aF (qi 0))] [(.cons 0 none (.cons 1 none (.cons 2 none (.cons 3 none (.cons 4 none (.cons 5 none (.cons 6 none (.cons 7 none (.cons 8 none (.cons 9 none (.cons 10 none (.cons 11 none (.cons 12 none (.cons 13 none (.cons 14 none (.cons 15 none (.cons 16 (some []) (.cons 17 none .nil))))))))))))))))))]) .ret))))))))))⟩
theorem l67:bs Tryz.prog Tryz.f67=some c67.er:=by kernel_rfl
def Qo(r:R4):CV:= .bF [.agg ((Qn r).map .aa),.one (.aa (.val (.int .i64 r.f4)))]
theorem SA(r:R4):(Qo r).zx=true:=rfl
structure StP where
 h:Nat
 a:Nat
 t:List bp.cQ
theorem Mf(l:List Ob)(au:Nat)(ax follow:Bool)(n a:Nat):wB l au ax follow n [] a=⟨a,x8 l a,[],0⟩:=by
 cases n<;>rfl
def G9:LC:=ov (bH (bH (bH (bH (bH (bH (bH c67.code)))))))
def SB:Bk:= .var ((Qn (R4.no 0)).map .aa)
theorem Ai(l:List Ob)(ok:lT l)(b:Nat)(ax follow:Bool)(a0:Nat)(Qp:a0<l.length)(parts:List bp.cQ)(hp:parts.length<=61):
  aw Tryz.prog 0 G9 (mJ Tryz.prog c67.jW (fun r m=>r=Qo (wB l b ax follow 6 parts a0))) ⟨kR 102 [(0,xL l),(4,ay follow),(10,.rv (.one (.ptr 0 0))),(15,.rv (.one (.ptr 1 0)))],[SB,q8 l b ax 0 a0 parts]⟩:=by
 refine ba (fun a:StP=>a.h<=6/\a.a<l.length/\a.t.length<=61*(a.h+1)/\wB l b ax follow (6-a.h) a.t a.a=wB l b ax follow 6 parts a0) [0,4,10,15] (fun _=>[]) (fun a=>[SB,q8 l b ax a.h a.a a.t]) (fun a=>(6-a.h)*1000+a.t.length) ⟨0,a0,parts⟩ ⟨Wi _,Qp,by simpa using hp,rfl⟩ ?_ (fun a ha=>?_)
 .refine View.o 2 [0,1] [] ?_ (.pt rfl rfl (.eq rfl (by intro x;cases x)) (.pt rfl rfl (.eq rfl (uq _ _ _ _ _ _)) (.nil _)))
  repeat(first|exact .nil|refine .ar ?_|refine .eq rfl ?_)
 obtain⟨h,a,t⟩:=a;obtain⟨hh,ha,ht,he⟩:=ha;have hh:h<=6:=hh;have ha:a<l.length:=ha;have ht:t.length<=61*(h+1):=ht;have he:wB l b ax follow (6-h) t a=wB l b ax follow 6 parts a0:=he;refine aJ (fun h1=>?_) (fun h1=>?_)
 .have h1:((t.map bp.tD).length:Int)>0:=h1;rw[Gm]at h1;obtain⟨s,t',rfl⟩:∃s t',t=s::t':=by
   cases t with
   |nil=>simp at h1
   |cons s t'=>exact⟨s,t',rfl⟩
  have ht:t'.length+1<=61*(h+1):=by simpa using ht
  refine Me l ok b ax follow h a hh ha s t' om 1 rfl fun r h' a' SC hq=>?_
  cases hq with
  |done r okk h' a' SC hd hr=>
   rw[<-he,hr];cases okk with
   |true=>exact rfl
   |false=>
    have hd:r.f4≠0:=by simpa using hd
    refine bt (fun h2=>?_) (fun h2=>?_)
    .exact rfl
    .exact absurd h2 hd
  |go h' a' SC hr ha' hm=>
   refine⟨⟨h',a',SC⟩,⟨?_,ha',?_,hr.symm.trans he⟩,?_,View.o 3 [0,1] [] ?_ (.pt rfl rfl (.eq rfl (by intro x;cases x)) (.pt rfl rfl (.eq rfl (uq _ _ _ _ _ _)) (.nil _)))⟩
   .show h'<=6;omega
   .show SC.length<=61*(h'+1);rcases hm with⟨rfl,rfl⟩|⟨rfl,h6,hl⟩
    .omega
    .omega
   .show(6-h')*1000+SC.length<(6-h)*1000+(s::t').length;rw[Wo];rcases hm with⟨rfl,rfl⟩|⟨rfl,h6,hl⟩
    .omega
    .omega
   .repeat(first|exact .nil|refine .ar ?_|refine .eq rfl ?_)
 .have h1:¬((t.map bp.tD).length:Int)>0:=h1;rw[Gm]at h1;have h1:t=[]:=Wg om;subst h1;rw[Mf]at he;refine ag (ln ha) ?_;refine⟨trivial,?_⟩;rw[<-he,ok.Jp ha];exact rfl
theorem Gp(l:List Ob)(ok:lT l)(au:Int)(s:bp.cQ)(ax follow:Bool):body Tryz.prog c67 [xL l,an .i64 au,bp.vT s,ay ax,ay follow] [] (fun r m=>r=Qo (mf l au s ax follow)):=by
 have iH:lN l au 0=false->mf l au s ax follow=R4.no 6:=fun h=>by rw[mf,h];rfl
 refine aJ (fun h1=>?_) (fun h1=>?_)
 .rw[iH (by rw[lN,decide_eq_false om];rfl)];rfl
 obtain⟨b,rfl⟩:∃b:Nat,au=b:=⟨au.toNat,om⟩;refine aJ (fun h2=>?_) (fun h2=>?_)
 .have h2:(b:Int)>=((l.map Ob.enc).length:Int):=h2;rw[KB]at h2;rw[iH (by rw[lN,decide_eq_false (p:=(b:Int)<l.length) om];simp)];rfl
 have h2:¬(b:Int)>=((l.map Ob.enc).length:Int):=h2;rw[KB]at h2;have hb:b<l.length:=om;have hg:=ln hb;refine ag hg ?_;refine bA (fun h3=>?_) (fun h3=>?_)
 .have h3:l[b].ah=0:=h3;rw[iH (by unfold lN;rw[Wk,sA hb];simp[h3])];rfl
 have h3:l[b].ah≠0:=h3;have hI:lN l b 0=true:=by unfold lN;rw[Wk,sA hb];simp[h3,hb]
 have hL:∀r,(if l[b].ah≠2 then R4.no 11 else if(bp.cm s).2.2≠0 then R4.no (bp.cm s).2.2 else if(bp.cm s).2.1=true/\ax=true then R4.no 14
  else wB l b ax follow 6 (bp.cm s).1 (if(bp.cm s).2.1=true then 0 else b))=r->mf l b s ax follow=r:=fun r e=>by
  rw[mf,if_pos hI,Wk,q0 hb];exact e
 refine ag hg ?_;refine bt (fun h4=>?_) (fun h4=>?_)
 .rw[hL _ (if_pos h4)];rfl
 have h4:l[b].ah=2:=by simpa using h4
 rw[if_neg (by rw[h4];simp)]at hL
 refine bp.uh s ?_;have hp:=oC s;generalize bp.cm s=p at hp hL⊢;obtain⟨parts,ap,er⟩:=p;have hp:parts.length<=61:=hp;refine bt (fun h5=>?_) (fun h5=>?_)
 .rw[hL _ (if_pos h5)];rfl
 have h5:er=0:=by simpa using h5
 rw[if_neg (by simp[h5])]at hL
 have view:∀a0:Nat,∀e,gU (sg [0,1] 2) [SB,q8 l b ax 0 a0 parts] (fun k=>bz [] k=true) e (kR 102 [(0,xL l),(4,ay follow),(10,.rv (.one (.ptr 0 0))),(15,.rv (.one (.ptr 1 0)))])->
   View 0 ⟨e,[SB,q8 l b ax 0 a0 parts]⟩ ⟨kR 102 [(0,xL l),(4,ay follow),(10,.rv (.one (.ptr 0 0))),(15,.rv (.one (.ptr 1 0)))],[SB,q8 l b ax 0 a0 parts]⟩:=fun a0 e he=>
  View.o 2 [0,1] [] he (.pt rfl rfl (.eq rfl (by intro x;cases x)) (.pt rfl rfl (.eq rfl (uq _ _ _ _ _ _)) (.nil _)))
 cases ap with
 |true=>
  cases ax with
  |true=>
   rw[hL _ (if_pos ⟨rfl,rfl⟩)];rfl
  |false=>
   rw[hL _ (by rw[if_neg aI,if_pos rfl])]
   refine⟨_,view 0 _ ?_,Ai l ok b false follow 0 ok.pos parts hp⟩;repeat(first|exact .nil|refine .ar ?_|refine .eq rfl ?_)
 |false=>
  rw[hL _ (by rw[if_neg aI,if_neg aI])]
  refine⟨_,view b _ ?_,Ai l ok b ax follow b hb parts hp⟩;repeat(first|exact .nil|refine .ar ?_|refine .eq rfl ?_)
theorem Mg(l:List Ob)(ok:lT l)(au:Int)(s:bp.cQ)(ax follow:Bool){m:Mem}{K:CV->Mem->Prop}(h:K (Qo (mf l au s ax follow)) m):aq Tryz.prog 67 [xL l,an .i64 au,bp.vT s,ay ax,ay follow] m K:=by
 refine aY (K0:=fun r _=>r=Qo (mf l au s ax follow)) (ce Tryz.func67 l67 (Gp l ok au s ax follow)) (by simp[xL,an,ay,bp.vT,dh,CV.c6,CC.c6]) fun r m1 hr=>?_
 subst hr;exact⟨_,cw.self (SA _),h⟩
theorem Po{es:List NE}(hs:B9 es){s:ByteArray}(hf:xY es s=false)(n:Int):gN (s,n) es=es.take (oA es s)++(s,n)::es.drop (oA es s):=by
 obtain⟨h0,h1,h2⟩:=m6 hs s es.length 0 es.length om om om (fun k e hk=>absurd hk (aah k)) (fun k e hk he=>by have:=(Gf.1 he).1;omega)
 have hI:Gc es s es.length 0 es.length=oA es s:=rfl;rw[hI]at h0 h1 h2;have e1:∀e,e∈es.take (oA es s)->Ca e.1 s=false:=fun e he=>by obtain⟨k,hk⟩:=Un he;have fj:=(Gf.1 hk).1;rw[Z3]at fj;rw[aaj,if_pos om]at hk;have h3:=h1 k e om hk;unfold Ca;unfold xJ at h3;rw[h3];rfl
 have:=zK (x:=(s,n)) (a:=es.take (oA es s)) (b:=es.drop (oA es s)) e1;rw[abQ]at this;rw[this];congr 1;cases hd:es.drop (oA es s)with
 |nil=>rfl
 |cons e r=>
  have kZ:es[oA es s]? =some e:=by
   have:(es.drop (oA es s))[0]? =some e:=by rw[hd];rfl
   rw[aat]at this;simpa using this
  refine LK ?_;have h3:=h2 (oA es s) e (Pq _) kZ;unfold xY at hf;rw[kZ]at hf;have eG:¬jF e.1 s=0:=by simpa using hf
  have eG:e.1.toList≠s.toList:=fun h=>eG (ui.2 h)
  show Ca e.1 s=true;unfold Ca;unfold xJ at h3;have h3:Op.bytesLess e.1.toList s.toList=false:=by simpa using h3
  rw[h3];simp[eG]
theorem wC{es:List NE}(hs:B9 es)(s:ByteArray):(if xY es s=true then(match es[oA es s]? with|some e=>e.2|none=>0)else -1)=dG es s:=rX hs (EJ hs s) (iA es s)
def c65:LF:= ⟨20,[.tmp 2],(.seq (.ai [qu 1 (.box 0),qu 2 (.aF qe)]) (.seq (.ai [qu 3 (.aF qe)]) (.seq (.seq (.ai [qf 6 2 1,ql 7 6,qu 8 (.len 1 7),qu 9 (.aF (qi 0))]) (.block 0 (.loop (.seq (.ai [qu 10 (.aH .lss 9 8)]) (.seq (.cond 10 .skip (.exit 0)) (.seq (.block 1 (.seq (.ai [qu 11 (.cr 2 7 9),qL 12 2 11,qu 5 (.alloc [(.aa (.val (.string ⟨#[]⟩))),(qd 0)]),qw (.store 2 5 12)]) (.ai [qm 13 3,qf 14 0 5,ql 15 14,qu 16 (.l5 1 [(.aa (.val (.string ⟨#[]⟩)))] 1 [(0,15)]),qu 17 (.mE 1 16 13 16),qm 3 17]))) (.ai [qu 18 (.aH .add 9 (qi 1)),qm 9 18]))))))) (.seq (.ai [qm 19 3,qm 2 19]) .ret))))⟩
def c112:LF:= ⟨128,[.tmp 8,.tmp 9],(.seq (.ai [qu 8 (.aF qe),qu 9 (.aF (qi 0))]) (.seq (.block 0 (.seq (.ai [qm 14 1,qu 15 (.aH .lss 14 (qi 0)),qm 16 15,qg 17 (.aF 1) 16 false,qg 18 (.aF 0) 16 false,qg 19 (.len 1 18) 16 false,qg 20 (.aH .geq 17 19) 16 false,qu 21 (.pick 16 (qb true) 20),qm 22 21,qg 23 (.aF 0) 22 false,qg 24 (.aF 1) 22 false,qg 25 (.cr 9 23 24) 22 false,qg 26 (.bX 0 25) 22 false,qg 27 (.load false 1 26) 22 false,qg 28 (.aH .eql 27 (qi 0)) 22 false,qu 29 (.pick 22 (qb true) 28),qm 30 29,qg 31 (.aF 3) 30 false,qg 32 (.aH .lss 31 (qi 0)) 30 false,qu 33 (.pick 30 (qb true) 32),qm 34 33,qg 35 (.aF 3) 34 false,qg 36 (.aF 0) 34 false,qg 37 (.len 1 36) 34 false,qg 38 (.aH .geq 35 37) 34 false,qu 39 (.pick 34 (qb true) 38),qm 40 39,qg 41 (.aF 0) 40 false,qg 42 (.aF 3) 40 false,qg 43 (.cr 9 41 42) 40 false,qg 44 (.bX 0 43) 40 false,qg 45 (.load false 1 44) 40 false,qg 46 (.aH .eql 45 (qi 0)) 40 false,qu 47 (.pick 40 (qb true) 46),qm 13 47]) (.cond 13 (.seq (.ai [qu 8 (.aF qe),qu 9 (.aF (qi 6))]) .ret) (.seq (.ai [qm 49 0,qm 50 1,qu 51 (.cr 9 49 50),qf 52 0 51,ql 53 52,qu 54 (.aH .neq 53 (qi 2)),qm 48 54]) (.cond 48 (.seq (.ai [qu 8 (.aF qe),qu 9 (.aF (qi 11))]) .ret) (.seq (.ai [qm 56 0,qm 57 1,qu 58 (.cr 9 56 57),qf 59 7 58,ql 60 59,qu 61 (.aH .eql 60 (qi 0)),qm 55 61]) (.cond 55 (.seq (.ai [qu 8 (.aF qe),qu 9 (.aF (qi 6))]) .ret) (.seq (.ai [qm 63 2,qu 64 (qc 106 [63]),qu 65 (.un .not 64),qm 66 65,qg 67 (.aF 0) 66 false,qg 68 (.aF 1) 66 false,qg 69 (.aF 2) 66 false,qg 70 (qc 108 [67,68,69]) 66 false,qg 71 (.aH .geq 70 (qi 0)) 66 false,qu 72 (.pick 66 (qb true) 71),qm 62 72]) (.cond 62 (.seq (.ai [qu 8 (.aF qe),qu 9 (.aF (qi 7))]) .ret) (.seq (.ai [qm 74 0,qm 75 1,qu 76 (.cr 9 74 75),qf 77 2 76,ql 78 77,qu 79 (.len 1 78),qu 80 (.aH .geq 79 (qi 8)),qm 73 80]) (.cond 73 (.seq (.ai [qu 8 (.aF qe),qu 9 (.aF (qi 15))]) .ret) .skip))))))))))) (.seq (.ai [qm 81 0,qu 82 (qc 98 [81]),qm 10 82]) (.seq (.ai [qm 84 10,qm 85 1,qu 86 (.cr 9 84 85),qf 87 2 86,ql 88 87,qm 89 2,qu 90 (qc 134 [88,89,(.c (.rv (.one (.fn 139 []))))]),qm 83 90,qu 91 (.ext 83 0),qu 92 (.ext 83 1),qm 11 91,qm 12 92]) (.seq (.ai [qm 93 10,qm 94 1,qm 95 10,qm 96 1,qu 97 (.cr 9 95 96),qf 98 2 97,ql 99 98,qm 100 11,qm 101 2,qm 102 3,qu 103 (.build [(.aa (.val (.string ⟨#[]⟩))),(qd 0)] [(0,1,101),(1,1,102)]),qu 104 (.l5 2 [(.aa (.val (.string ⟨#[]⟩))),(qd 0)] 1 [(0,103)]),qu 105 (qc 140 [99,100,104]),qu 106 (.cr 9 93 94),qf 107 2 106,qw (.store 1 107 105)]) (.seq (.ai [qm 108 10,qm 109 3,qu 110 (.cr 9 108 109),qf 111 7 110,ql 112 111,qu 113 (.aH .add 112 (qi 1)),qu 114 (.cr 9 108 109),qf 115 7 114,qw (.store 1 115 113)]) (.seq (.seq (.ai [qm 116 10,qm 117 3,qu 118 (.cr 9 116 117),qf 119 0 118,ql 120 119,qu 121 (.aH .eql 120 (qi 2))]) (.cond 121 (.ai [qm 122 10,qm 123 3,qm 124 1,qu 125 (.cr 9 122 123),qf 126 8 125,qw (.store 1 126 124)]) .skip)) (.cI (.seq (.ai [qm 127 10,qm 8 127,qu 9 (.aF (qi 0))]) .ret)))))))))⟩
def c140:LF:= ⟨95,[.tmp 6],(.seq (.ai [qu 6 (.aF qe)]) (.seq (.ai [qm 10 0,qm 11 1,qu 12 (.mD 2 10 (some 11) none none)]) (.seq (.ai [qm 13 2,qu 14 (.len 1 13),qm 7 14]) (.seq (.seq (.ai [qm 15 7,qu 16 (.aH .eql 15 (qi 0))]) (.cond 16 (.seq (.ai [qm 17 0,qm 6 17]) .ret) .skip)) (.seq (.ai [qm 18 0,qu 19 (.len 1 18),qm 8 19]) (.seq (.seq (.ai [qm 20 1,qm 21 8,qu 22 (.aH .eql 20 21)]) (.cond 22 (.seq (.ai [qm 23 0,qm 24 2,qu 25 (.mE 2 24 23 24),qm 6 25]) .ret) .skip)) (.seq (.seq (.ai [qm 26 8,qm 27 7,qu 28 (.aH .add 26 27),qm 29 0,qu 30 (.hC true []),qu 31 (.aH .gtr 28 30)]) (.cond 31 (.seq (.ai [qm 32 0,qm 33 1,qu 34 (.mD 2 32 none (some 33) none),qm 35 8,qm 36 7,qu 37 (.aH .add 35 36),qm 38 1,qu 39 (.aH .sub 37 38),qu 40 (.hC true []),qm 9 40]) (.seq (.ai [qm 41 9,qm 42 1,qu 43 (.mD 2 41 (some 42) none none),qm 44 2,qu 45 (.copy 2 43 44)]) (.seq (.bU [qm 46 9,qm 47 1,qm 48 7,qu 49 (.aH .add 47 48),qu 50 (.mD 2 46 (some 49) none none),qm 51 0,qm 52 1,qu 53 (.mD 2 51 (some 52) none none),qu 54 (.copy 2 50 53)] [(.cons 0 none (.cons 1 none (.cons 2 none (.cons 3 none (.cons 4 none (.cons 5 none (.cons 6 none (.cons 7 none (.cons 8 (some []) .nil)))))))))]) (.seq (.ai [qm 55 9,qm 6 55]) .ret)))) .skip)) (.seq (.ai [qm 56 0,qm 57 8,qm 58 7,qu 59 (.aH .add 57 58),qu 60 (.mD 2 56 none (some 59) none),qm 0 60]) (.seq (.seq (.ai [qm 61 2,qm 62 0,qm 63 1,qm 64 7,qu 65 (.aH .add 63 64),qu 66 (.mD 2 62 (some 65) none none),qu 67 (qc 151 [61,66]),qu 68 (.un .not 67)]) (.cond 68 (.seq (.bU [qm 69 0,qm 70 1,qm 71 7,qu 72 (.aH .add 70 71),qu 73 (.mD 2 69 (some 72) none none),qm 74 0,qm 75 1,qu 76 (.mD 2 74 (some 75) none none),qu 77 (.copy 2 73 76)] [(.cons 0 none (.cons 1 none (.cons 2 none (.cons 3 none (.cons 4 none (.cons 5 none (.cons 6 none (.cons 7 none (.cons 8 (some []) .nil)))))))))]) (.seq (.ai [qm 78 0,qm 79 1,qu 80 (.mD 2 78 (some 79) none none),qm 81 2,qu 82 (.copy 2 80 81)]) (.seq (.ai [qm 83 0,qm 6 83]) .ret))) .skip)) (.seq (.ai [qm 84 0,qm 85 8,qu 86 (.mD 2 84 (some 85) none none),qm 87 2,qu 88 (.copy 2 86 87)]) (.seq (.ai [qm 89 0,qm 90 1,qu 91 (.mD 2 89 (some 90) none none),qm 92 7,qu 93 (qc 152 [91,92])]) (.seq (.ai [qm 94 0,qm 6 94]) .ret))))))))))))⟩
theorem l65:bs Tryz.prog Tryz.f65=some c65:=by kernel_rfl
theorem l140:bs Tryz.prog Tryz.f140=some c140:=by kernel_rfl
theorem l112:bs Tryz.prog Tryz.f112=some c112.er:=by kernel_rfl
def Uk(e:ByteArray×Int):List Dt:=[.val (.string e.1)]
theorem CN(o:Obj)(es:List (ByteArray×Int))(he:o.aj=es.map cK)(hl:es.length<=4194304):body Tryz.prog c65 [o.cv] [] (fun r m=>cw m r (pw 1 (es.map Uk))):=by
 obtain⟨ah,data,aj,target,aC,ak,aM,am,up⟩:=o;have he:aj=es.map cK:=he;subst he;refine ba (fun k=>k<=es.length) [7,8] (fun k=>[(9,an .i64 (k:Nat)),(3,.rv (.one (.row 0 1 0 none)))]) (fun k=>[.row 1 (af ((es.take k).map Uk))]) (fun k=>es.length-k) 0 (Wi _) ?_ (fun k hk=>?_)
 .refine View.trans (View.aB 3 1 1 rfl rfl rfl) (View.o1 2 [1] [] ?_)
  .exact .pn rfl rfl rfl
 have hk:k<=es.length:=hk;refine aJ (fun h=>?_) (fun h=>?_)
 .have aE:k<es.length:=by have h:(k:Int)<((es.map cK).length:Int):=h;rw[KB]at h;omega
  refine ag (m5 aE) ?_;refine⟨by simp[cu,af];omega,?_⟩
  refine⟨k+1,aE,(show es.length-(k+1)<es.length-k by omega),View.o 4 [3] [] ?_ ?_⟩
  .repeat(first|exact .nil|refine .ar ?_|refine .put (.aQ (aL om).symm) ?_|refine .eq rfl ?_)
  .refine .pt rfl rfl (.bP ?_) (.nil _);rw[rV (sA aE),aav,cN];rfl
 .have xN:k=es.length:=by have h:¬(k:Int)<((es.map cK).length:Int):=h;rw[KB]at h;omega
  subst xN;rw[aal];exact .rv (.one (dU.dX rfl 0 none))
theorem JB(o:Obj)(es:List (ByteArray×Int))(he:o.aj=es.map cK)(hl:es.length<=4194304){m:Mem}{K:CV->Mem->Prop}(h:K (pw 1 (es.map Uk)) m):aq Tryz.prog 65 [o.cv] m K:=
 aY (aX Tryz.func65 l65 (CN o es he hl)) (by simp[Obj.cv,Obj.enc,CV.c6,CC.c6,RV.c6]) fun r m1 hf=>⟨_,hf,h⟩
theorem JC(S:List (List Dt))(e:List Dt)(hl:S.length<=4194304):body Tryz.prog c140 [.rv (.one (.row 0 2 0 none)),an .i64 (S.length:Nat),.rv (.one (.row 1 2 0 none))] [.row 2 (af S),.row 2 (af [e])]
  (fun r m=>r= .rv (.one (.row 2 2 0 none))/\m=[.aO,.aO,.row 2 (af (S++ [e]))]):=by
 have hlen:lenOf (af S).length 0 none=S.length:=dl S;refine cj (by show(Nat.ble S.length (lenOf (af S).length 0 none)&&Nat.ble (lenOf (af S).length 0 none) ((af S).length-0))=true;rw[hlen,dl];simp[aak]) ?_
 refine bA (fun h=>?_) (fun h=>?_)
 .refine⟨by simp[cu,af];omega,rfl,?_⟩
  show [Bk.aO,.aO,.row 2 (cu (af S) 0 none++cu (af [e]) 0 none)]=_;simp[cu,af]
 .exfalso;apply h;show((S.length:Nat):Int)=((lenOf (af S).length 0 none:Nat):Int);rw[hlen]
theorem Pp(S:List (List Dt))(e:List Dt)(hl:S.length<=4194304){m:Mem}{K:CV->Mem->Prop}(a b:Nat)(Be:fI [a,b]=true)(aE:eR m.length [a,b]=true)(ha:cR m a=some (.row 2 (af S)))(hb:cR m b=some (.row 2 (af [e])))(h:K (.rv (.one (.row m.length 2 0 none))) (cU m [a,b] [.aO,.aO,.row 2 (af (S++ [e]))])):aq Tryz.prog 140 [.rv (.one (.row a 2 0 none)),an .i64 (S.length:Nat),.rv (.one (.row b 2 0 none))] m K:=by
 refine bw [a,b] m.length rfl rfl Be aE (args0:=[.rv (.one (.row 0 2 0 none)),an .i64 (S.length:Nat),.rv (.one (.row 1 2 0 none))]) rfl (m0:=[.row 2 (af S),.row 2 (af [e])]) (fun i b' hi=>?_) (aX Tryz.func140 l140 (JC S e hl)) (fun r1 m1 hr=>?_)
 .match i,hi with
  |0,hi=>cases hi;exact .inr ⟨fun h=>h,_,by rw[aU]at ha;exact ha,.bP rfl⟩
  |1,hi=>cases hi;exact .inr ⟨fun h=>h,_,by rw[aU]at hb;exact hb,.bP rfl⟩
  |n+2,hi=>simp at hi
 .obtain⟨rfl,rfl⟩:=hr;refine⟨aI,?_⟩;show K (.rv (.one (.row (m.length+(2-2)) 2 0 none))) (cU m [a,b] [.aO,.aO,.row 2 ((af (S++ [e])).map (fun cs=>cs.map (CC.aQ (sg [a,b] m.length))))])
  rw[gd];exact h
def We:LC:=Wc (lu (lu (lu (lu (lu (lu (lu c112.code)))))))
end Go.Proofs.YtodckkkbiidffaaGreatDoor
namespace Go.Proofs.YtodckkkbiidffaaGreatDoor
open Go.AM Go.ChangeShapes Go.WideShapes Go.ChangeAt Go.RowKit
open Go.Shelf Go.Lib
theorem jh{P:Program}(w:World)(dT sT ty elem:TypeId)(b o dLen dCap:Nat)(a:Addr)(sLen sCap:Nat)(cs:List Value)(hu:P.underlying dT=some (.slice elem))(hs:(P.info? elem).map (·.size)=some 2)(hn:Nat.min sLen dLen*2=cs.length)(hsrc:∀j v,cs[j]? =some v->w.cell? (a.add j)=some v)(hc:∀j,j<cs.length->(w.cell? ⟨b,o+j,none⟩).isSome=true)(hf:∀j,j<cs.length->w.frozen? ⟨b,o+j,none⟩=false)(h1:∀v∈cs,v.oneCell'=true):
  (Builtin.copy_ #[dT,sT] ty #[.slice (some ⟨b,o,none⟩) dLen dCap,.slice (some a) sLen sCap]).run P w= .ok (goInt (Nat.min sLen dLen)) (w.setCells b o cs):=by
 have hl:=run_loadCells_list (P:=P) w a cs hsrc;have hst:=run_storeCells_cells (P:=P) b o cs 0 w (by simpa using hc) (by simpa using hf) h1
 cases hq:P.info? elem with
 |none=>simp[hq]at hs
 |some i=>
  have hi:i.size=2:=by simpa[hq]using hs
  simp[Builtin.copy_,run_underlying hu,Builtin.lenOf,Builtin.firstCells,sizeOf,typeInfo,hq,hi,hn,hl,hst]
open Go.Shelf Go.Lib in
theorem yh(b off n c i vb voff vc:Nat)(cs vs:List Value)(w:World)(hi:i<n)(hroom:n+1<=c)(hc63:c<=9223372036854775807)(hvb:vb≠b)(hcl:cs.length=n*2)(hvl:vs.length=2)(hcs:∀j v,cs[j]? =some v->w.cell? ⟨b,off+j,none⟩=some v)(hsp:∀j,j<(n+1)*2->(w.cell? ⟨b,off+j,none⟩).isSome=true)(hfz:∀j,j<(n+1)*2->w.frozen? ⟨b,off+j,none⟩=false)(hvs:∀j v,vs[j]? =some v->w.cell? ⟨vb,voff+j,none⟩=some v)(h1c:∀v∈cs,v.oneCell'=true)(h1v:∀v∈vs,v.oneCell'=true)(tA tB:TypeId)(kA kB:Nat)(hsa:w.shape? vb=some (tA,kA))(hsb:w.shape? b=some (tB,kB))(hkB:kB≠0)(hfa:w.frozen? ⟨vb,voff,none⟩=false)(hfe:w.frozen? ⟨vb,kA,none⟩=false):
  Calls Tryz.prog 140 #[.slice (some ⟨b,off,none⟩) n c,.int .i64 i,.slice (some ⟨vb,voff,none⟩) 1 vc] w fun e w'=>
   e= .returned (.slice (some ⟨b,off,none⟩) (n+1) c)/\w'=(w.drew.setCells b (off+(i+1)*2) (cs.drop (i*2))).setCells b (off+i*2) vs:=by
 have hz2:¬((i:Int)=(n:Int)):=om;have hov:∀lb cb,(callFunc 151 #[.slice (some ⟨vb,voff,none⟩) 1 vc,.slice (some ⟨b,off+(i+1)*2,none⟩) lb cb]).run Tryz.prog w= .ok (.value (.bool false)) w:=fun lb cb=>by
  rw[run_callFunc_extern Tryz.func151 (by kernel_rfl) (by kernel_rfl) (by kernel_rfl) (e:=Extern.SlicesOverlaps.overlaps #[84,84] #[4]) (by kernel_rfl),
   Lib.run_overlaps_apart w 84 4 206 Tryz.underlying84 2 (fun w=>by kernel_rfl) ⟨vb,voff,none⟩ ⟨b,off+(i+1)*2,none⟩ 1 vc lb cb hvb tA tB kA kB hsa hsb hkB hfa hfe]
  rfl
 have hsz:(Tryz.prog.info? 206).map (·.size)=some 2:=by kernel_rfl
 have hdl:(cs.drop (i*2)).length=(n-i)*2:=by rw[aaC,hcl,acf]
 have hw1:IntKind.i64.wrap ((i:Int)+1)=(i:Int)+1:=by rw[IntKind.wrap_i64];omega
 have hw2:IntKind.i64.wrap ((n:Int)+1)=(n:Int)+1:=by rw[IntKind.wrap_i64];omega
 have hb1:(0:Int)<=(i:Int)+1:=om;have hin:i<=n:=om;have htn:((i:Int)+1).toNat=i+1:=om;have htn2:((n:Int)+1).toNat=n+1:=om;have hb2:¬(c=i+1):=om;have hb3:(i:Int)<=(n:Int)+1:=om;have hb4:¬(c=i):=om;have hcp1:∀ty dc sc,(Builtin.copy_ #[84,84] ty #[.slice (some ⟨b,off+(i+1)*2,none⟩) (n-i) dc,.slice (some ⟨b,off+i*2,none⟩) (n+1-i) sc]).run Tryz.prog w.drew= .ok (goInt ((n-i:Nat):Int)) (w.drew.setCells b (off+(i+1)*2) (cs.drop (i*2))):=fun ty dc sc=>by
  have hm:Nat.min (n+1-i) (n-i)=n-i:=by simp only[acg];split<;>omega
  have:=jh (P:=Tryz.prog) w.drew 84 84 ty 206 b (off+(i+1)*2) (n-i) dc ⟨b,off+i*2,none⟩ (n+1-i) sc (cs.drop (i*2)) Tryz.underlying84 hsz (by rw[hm,hdl])
   (fun j v hj=>by rw[Addr.add_lit,aao];exact hcs (i*2+j) v (by rwa [aat]at hj))
   (fun j hj=>by rw[aao];exact hsp _ (by rw[hdl]at hj;omega)) (fun j hj=>by rw[aao];exact hfz _ (by rw[hdl]at hj;omega)) (fun v hv=>h1c v (abb hv))
  rwa [hm]at this
 obtain⟨W1,hW1⟩:∃W1,W1=w.drew.setCells b (off+(i+1)*2) (cs.drop (i*2)):=⟨_,rfl⟩;have hsp1:∀k,k<(n+1)*2->(W1.cell? ⟨b,off+k,none⟩).isSome=true:=fun k hk=>by rw[hW1];exact isSome_setCells b _ _ _ (fun j hj=>by rw[aao];exact hsp _ (by rw[hdl]at hj;omega)) _ (hsp k hk)
 have hcp2:∀(W:World),(∀x,W.cell? x=W1.cell? x)->(∀x,W.frozen? x=W1.frozen? x)->∀ty dc,(Builtin.copy_ #[84,84] ty #[.slice (some ⟨b,off+i*2,none⟩) (n+1-i) dc,.slice (some ⟨vb,voff,none⟩) 1 vc]).run Tryz.prog W= .ok (goInt 1) (W.setCells b (off+i*2) vs):=fun W hWc hWf ty dc=>by
  have hm:Nat.min 1 (n+1-i)=1:=by simp only[acg];split<;>omega
  have:=jh (P:=Tryz.prog) W 84 84 ty 206 b (off+i*2) (n+1-i) dc ⟨vb,voff,none⟩ 1 vc vs Tryz.underlying84 hsz (by rw[hm,hvl])
   (fun j v hj=>by
    rw[Addr.add_lit,hWc,hW1,World.cell?_setCells_out b _ _ _ _ (fun h _=>absurd h hvb)]
    exact hvs j v hj)
   (fun j hj=>by rw[hWc,aao];exact hsp1 _ om) (fun j hj=>by rw[hWf,hW1,World.frozen?_setCells,aao];exact hfz _ om) h1v
  rwa [hm]at this
 subst hW1
 go_enter Tryz.func140,Tryz.ntmps140
 go_wp2_with (simp only[hov])
 have mixed:Tryz.prog.follows .mixedOrders=true:=by kernel_rfl
 go_region_law_o (refine step_copy_runI rfl _ _ 84 84 rfl _ _ (by simp[Act.eval,Act.put]) (by simp[Act.eval,Act.put]) (hcp1 _ _ _) ?_)
 go_wp2_with (at_builtin;refine wpList_copy_runI _ rfl _ _ 84 84 rfl _ _ rfl rfl (hcp2 _ (fun _=>rfl) (fun _=>rfl) _ _) ?_)
 go_ret
 exact⟨rfl,rfl⟩
def sB:Value:= .agg #[.string ⟨#[]⟩,.int .i64 0]
open Go.Shelf Go.Lib in
theorem Aj(b off n c i vb voff vc:Nat)(cs vs:List Value)(w:World)(hi:i<n)(hnc:n<=c)(hroom:c<n+1)(hbig:(n+1)*24<=140737488355328)(hcl:cs.length=n*2)(hvl:vs.length=2)(hcs:∀j v,cs[j]? =some v->w.cell? ⟨b,off+j,none⟩=some v)(hvs:∀j v,vs[j]? =some v->w.cell? ⟨vb,voff+j,none⟩=some v)(h1c:∀v∈cs,v.oneCell'=true)(h1v:∀v∈vs,v.oneCell'=true):
  Calls Tryz.prog 140 #[.slice (some ⟨b,off,none⟩) n c,.int .i64 i,.slice (some ⟨vb,voff,none⟩) 1 vc] w fun e w'=>
   e= .returned (.slice (some ⟨w.heap.size,0,none⟩) (n+1) (grownCap w (n+1) c 206))/\
   w'=(((w.alloc (.cells ((cs.take (i*2)).toArray++Builtin.zeroCells sB.cells (n+1-i)++Builtin.zeroCells sB.cells (grownCap w (n+1) c 206-(n+1))) 206)).drew.setCells w.heap.size (i*2) vs).drew).setCells w.heap.size ((i+1)*2) (cs.drop (i*2)):=by
 obtain⟨i0,hi0,hz0,hzs,hzb⟩:∃i0,Tryz.prog.info? 206=some i0/\i0.zero=some sB/\i0.size=2/\i0.bytes=24:=by
  have h9:(Tryz.prog.info? 206).map (fun i=>(i.zero,i.size,i.bytes))=some (some sB,2,24):=by kernel_rfl
  cases hi0:Tryz.prog.info? 206 with
  |none=>rw[hi0]at h9;cases h9
  |some i0=>
   rw[hi0]at h9;simp only[Wn,Wm,Prod.mk.injEq]at h9;exact⟨i0,rfl,h9.1,h9.2.1,h9.2.2⟩
 have hz2:¬((i:Int)=(n:Int)):=om;have hz3:(c:Int)<(n:Int)+1:=om;have hsz:(Tryz.prog.info? 206).map (·.size)=some 2:=by rw[hi0];simp[hzs]
 have hbw:b<w.heap.size:=block_lt_of_cell (hcs 0 _ (sA om));have hvw:vb<w.heap.size:=block_lt_of_cell (hvs 0 _ (sA om));have hwn:IntKind.i64.wrap ((n:Int)+1)=(n:Int)+1:=by rw[IntKind.wrap_i64];omega
 have hwm:IntKind.i64.wrap ((n:Int)+1-(i:Int))=(n:Int)+1-(i:Int):=by rw[IntKind.wrap_i64];omega
 have hkk:(n:Int)+1-(i:Int)=((n+1-i:Nat):Int):=om;have hik:i+(n+1-i)=n+1:=om;have hold:(Builtin.firstCells i0.size i (.slice (some ⟨b,off,none⟩) i c)).run Tryz.prog w.drew= .ok (cs.take (i*2)).toArray w.drew:=by
  rw[hzs];exact run_firstCells_some w.drew 2 i ⟨b,off,none⟩ i c (cs.take (i*2)) (by rw[Z3];omega) (fun j v hj=>by
   rw[Addr.add_lit];rw[aaj]at hj;split at hj
   .exact hcs j v hj
   .cases hj)
 have hrz:∀ty,(Builtin.append_ #[84,3] ty #[.slice (some ⟨b,off,none⟩) i c,.int .i64 ((n:Int)+1-(i:Int))]).run Tryz.prog w=
   .ok (.slice (some ⟨w.heap.size,0,none⟩) (n+1) (grownCap w (n+1) c 206)) (w.drew.alloc (.cells ((cs.take (i*2)).toArray++Builtin.zeroCells sB.cells (n+1-i)++Builtin.zeroCells sB.cells (grownCap w (n+1) c 206-(n+1))) 206)):=fun ty=>by
  have h:=Lib.run_append_grow_zeros (P:=Tryz.prog) w 84 3 ty 206 i0 _ .i64 .i64 Tryz.underlying84 Tryz.underlying3 hi0 hz0 (some ⟨b,off,none⟩) i c (cs.take (i*2)) hold (n+1-i) om om om om (by rw[hzb];omega) (by rw[hzb,hik];exact growslice_fits hroom hbig)
  rw[hik]at h;rw[hkk];exact h
 obtain⟨G,hG⟩:∃G,G=grownCap w (n+1) c 206:=⟨_,rfl⟩;obtain⟨ROW,hROW⟩:∃ROW:Array Value,ROW=(cs.take (i*2)).toArray++Builtin.zeroCells sB.cells (n+1-i)++Builtin.zeroCells sB.cells (G-(n+1)):=⟨_,rfl⟩;rw[<-hG]at hrz⊢;rw[<-hROW]at hrz⊢;have hRl:(n+1)*2<=ROW.size:=by rw[hROW];simp[Builtin.zeroCells,Value.cells,sB];omega
 obtain⟨W1,hW1⟩:∃W1,W1=w.drew.alloc (.cells ROW 206):=⟨_,rfl⟩;rw[<-hW1]at hrz;have hN:∀j,j<(n+1)*2->(W1.cell? ⟨w.heap.size,j,none⟩).isSome=true:=fun j hj=>by rw[hW1,World.cell?_alloc_at (w:=w.drew) ROW _ w.heap.size j rfl,aaO om];rfl
 have hNf:∀j,W1.frozen? ⟨w.heap.size,j,none⟩=false:=fun j=>by rw[hW1];exact World.frozen?_alloc_at (w:=w.drew) ROW _ w.heap.size j rfl
 have hOb:∀j v,w.cell? ⟨b,j,none⟩=some v->W1.cell? ⟨b,j,none⟩=some v:=fun j v h=>by rw[hW1,World.cell?_alloc_past (w:=w.drew) _ b j hbw];exact h
 have hOv:∀j v,w.cell? ⟨vb,j,none⟩=some v->W1.cell? ⟨vb,j,none⟩=some v:=fun j v h=>by rw[hW1,World.cell?_alloc_past (w:=w.drew) _ vb j hvw];exact h
 have hcpA:∀(W:World),(∀x,W.cell? x=W1.cell? x)->(∀x,W.frozen? x=W1.frozen? x)->∀ty dc,(Builtin.copy_ #[84,84] ty #[.slice (some ⟨w.heap.size,i*2,none⟩) (n+1-i) dc,.slice (some ⟨vb,voff,none⟩) 1 vc]).run Tryz.prog W= .ok (goInt 1) (W.setCells w.heap.size (i*2) vs):=fun W hWc hWf ty dc=>by
  have hm:Nat.min 1 (n+1-i)=1:=by simp only[acg];split<;>omega
  have:=jh (P:=Tryz.prog) W 84 84 ty 206 w.heap.size (i*2) (n+1-i) dc ⟨vb,voff,none⟩ 1 vc vs Tryz.underlying84 hsz (by rw[hm,hvl])
   (fun j v hj=>by rw[Addr.add_lit,hWc];exact hOv _ v (hvs j v hj))
   (fun j hj=>by rw[hWc];exact hN _ om) (fun j hj=>by rw[hWf];exact hNf _) h1v
  rwa [hm]at this
 have hGn:n+1<=G:=by rw[hG];exact grownCap_ge w _ _ _
 have hG63:G<=9223372036854775807:=by
  have:=grownCap_le_maxLen w (n+1) c 206 (by unfold maxLen;omega)
  rw[<-hG]at this;unfold maxLen at this;omega
 have hGi:¬(G=i):=om;have hGim:¬(G=i+1):=om;have hci:¬(c=i):=om;have hbN:b≠w.heap.size:=om;have hdl:(cs.drop (i*2)).length=(n-i)*2:=by rw[aaC,hcl,acf]
 have hcpB:∀(W:World),(∀x,W.cell? x=(W1.setCells w.heap.size (i*2) vs).cell? x)->(∀x,W.frozen? x=(W1.setCells w.heap.size (i*2) vs).frozen? x)->∀ty dc sc,(Builtin.copy_ #[84,84] ty #[.slice (some ⟨w.heap.size,(i+1)*2,none⟩) (n-i) dc,.slice (some ⟨b,off+i*2,none⟩) (n-i) sc]).run Tryz.prog W= .ok (goInt ((n-i:Nat):Int)) (W.setCells w.heap.size ((i+1)*2) (cs.drop (i*2))):=fun W hWc hWf ty dc sc=>by
  have hm:Nat.min (n-i) (n-i)=n-i:=by simp[acg]
  have:=jh (P:=Tryz.prog) W 84 84 ty 206 w.heap.size ((i+1)*2) (n-i) dc ⟨b,off+i*2,none⟩ (n-i) sc (cs.drop (i*2)) Tryz.underlying84 hsz (by rw[hm,hdl])
   (fun j v hj=>by
    rw[Addr.add_lit,hWc,World.cell?_setCells_out _ _ _ _ _ (fun h _=>absurd h hbN),aao]
    exact hOb _ v (hcs (i*2+j) v (by rwa [aat]at hj)))
   (fun j hj=>by rw[hWc];exact isSome_setCells _ _ _ _ (fun t ht=>hN _ om) _ (hN _ om))
   (fun j hj=>by rw[hWf,World.frozen?_setCells];exact hNf _) (fun v hv=>h1c v (abb hv))
  rwa [hm]at this
 subst hW1;have hE1:∀x,((w.alloc (.cells ROW 206)).drew).cell? x=(w.drew.alloc (.cells ROW 206)).cell? x:=fun x=>rfl
 have hE2:∀x,((w.alloc (.cells ROW 206)).drew).frozen? x=(w.drew.alloc (.cells ROW 206)).frozen? x:=fun x=>rfl
 have hF1:∀x,(((w.alloc (.cells ROW 206)).drew.setCells w.heap.size (i*2) vs).drew).cell? x=((w.drew.alloc (.cells ROW 206)).setCells w.heap.size (i*2) vs).cell? x:=fun x=>rfl
 have hF2:∀x,(((w.alloc (.cells ROW 206)).drew.setCells w.heap.size (i*2) vs).drew).frozen? x=((w.drew.alloc (.cells ROW 206)).setCells w.heap.size (i*2) vs).frozen? x:=fun x=>rfl
 have hw1:IntKind.i64.wrap ((i:Int)+1)=(i:Int)+1:=by rw[IntKind.wrap_i64];omega
 have hb1:(0:Int)<=(i:Int)+1:=om;have hin:i<=n:=om;have htn:((i:Int)+1).toNat=i+1:=om;have hb3:(i:Int)<=(n:Int):=om;have hnn:n+1-(i+1)=n-i:=om;clear hkk hik hold hROW hG hRl;have mixed:Tryz.prog.follows .mixedOrders=true:=by kernel_rfl
 go_enter Tryz.func140,Tryz.ntmps140
 go_wp2_with (first
  |(at_builtin;refine Lib.wpList_append_run _ rfl _ _ _ _ rfl _ _ rfl rfl _ _ (hrz _) ?_)
  |(at_builtin;refine wpList_copy_runI _ rfl _ _ 84 84 rfl _ _ rfl rfl (hcpA _ hE1 hE2 _ _) ?_)
  |(at_builtin;refine wpList_copy_runI _ rfl _ _ 84 84 rfl _ _ rfl rfl (hcpB _ (fun _=>rfl) (fun _=>rfl) _ _ _) ?_))
 go_region_law_o (refine step_copy_runI rfl _ _ 84 84 rfl (.slice (some ⟨w.heap.size,(i+1)*2,none⟩) (n-i) (G-(i+1))) (.slice (some ⟨b,off+i*2,none⟩) (n-i) (c-i)) (by simp[Act.eval,Act.put]) (by simp[Act.eval,Act.put]) (hcpB _ hF1 hF2 3 (G-(i+1)) (c-i)) ?_)
 go_wp2
 go_ret
 exact⟨rfl,rfl⟩
end Go.Proofs.YtodckkkbiidffaaGreatDoor
