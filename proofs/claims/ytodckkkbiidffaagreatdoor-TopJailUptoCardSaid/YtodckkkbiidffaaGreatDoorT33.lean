/- Part 33 of 39: what the law stands on. -/
import Derived.Test.YtodckkkbiidffaaGreatDoorT16
import Derived.Test.YtodckkkbiidffaaGreatDoorT32
set_option linter.unusedVariables false
set_option linter.unusedSimpArgs false
set_option linter.unnecessarySimpa false
set_option maxRecDepth 100000
set_option maxHeartbeats 64000000
namespace Go.Proofs.YtodckkkbiidffaaGreatDoor
open Go.AM Go.ChangeShapes Go.WideShapes Go.ChangeAt Go.RowKit
def c34:LF:= ⟨66,[.cell true 4 4],(.seq (.ai [qu 4 (.alloc [(qd 0),(qd 0),(qd 0),.aB])]) (.seq (.bU [qm 8 0,qu 9 (.aT 8),qf 10 0 9,qf 11 2 10,ql 12 11,qm 13 0,qu 14 (.aT 13),qf 15 3 14,ql 16 15,qu 17 (.cr 4 12 16),qf 18 3 17,ql 19 18,qm 5 19] [(.cons 0 none (.cons 1 none (.cons 2 none (.cons 3 none (.cons 4 none (.cons 5 none (.cons 6 none (.cons 7 none (.cons 8 none (.cons 9 none (.cons 10 none (.cons 11 none (.cons 12 none .nil)))))))))))))]) (.seq (.ai [qu 6 (.aF (qi 0))]) (.seq (.ai [qu 7 (.aF (qi 0))]) (.seq (.seq (.ai [qm 20 1,qu 21 (.aT 20),qf 22 1 21,ql 23 22]) (.block 0 (.seq (.ai [qu 38 (.aH .eql 23 (qi 7)),qm 37 38]) (.cond 37 (.ai [qm 40 5,qm 41 1,qu 42 (.aT 41),qf 43 2 42,ql 44 43,qu 45 (qc 60 [40,44]),qm 39 45,qu 46 (.ext 39 0),qu 47 (.ext 39 1),qm 5 46,qm 7 47]) (.seq (.ai [qu 49 (.aH .eql 23 (qi 8)),qm 48 49]) (.cond 48 (.ai [qm 51 5,qm 52 1,qu 53 (.aT 52),qf 54 2 53,ql 55 54,qu 56 (qc 61 [51,55]),qm 50 56,qu 57 (.ext 50 0),qu 58 (.ext 50 1),qu 59 (.ext 50 2),qm 5 57,qm 6 58,qm 7 59]) (.bU [qm 25 5,qm 26 1,qu 27 (.aT 26),qf 28 2 27,ql 29 28,qm 30 1,qu 31 (.aT 30),qf 32 6 31,ql 33 32,qu 34 (qc 62 [25,29,33]),qm 24 34,qu 35 (.ext 24 0),qu 36 (.ext 24 1),qm 5 35,qm 7 36] [(.cons 0 none (.cons 1 none (.cons 2 none (.cons 3 none (.cons 4 none (.cons 5 none (.cons 6 none (.cons 7 none (.cons 8 none (.cons 9 (some []) (.cons 10 none (.cons 11 none (.cons 12 none (.cons 13 none (.cons 14 none .nil)))))))))))))))]))))))) (.cI (.seq (.ai [qm 60 0,qm 61 5,qm 62 7,qu 63 (qc 63 [60,61,62]),qm 64 6,qu 65 (.build [(qd 0),(qd 0),(qd 0),.aB] [(0,1,63),(1,1,64)]),qw (.store 4 4 65)]) .ret)))))))⟩
namespace Kn
def ER(k:Kr)(p:Nat)(x:List fq×Int×Int):Kr×An:=(iL k p x.1 x.2.2,⟨x.2.2,x.2.1,0,[]⟩)
def mg(l:List fq)(c:Cl):List fq×Int×Int:=
 if c.ah=7 then((uA l c.fd).1,0,(uA l c.fd).2)else if c.ah=8 then JT l c.fd else((JU l c.fd c.aR).1,0,(JU l c.fd c.aR).2)
def nc(k:Kr)(p:Nat)(c:Cl):Kr×An:=ER k p (mg (aW k.ps p) c)
theorem l34:bs Tryz.prog Tryz.f34=some c34.er:=by kernel_rfl
def WJ:LC:=bH (bH (bH (bH (bH c34.code))))
def WK:LC:=ov WJ
theorem J1(k:Kr)(p:Nat)(hw:KW k p)(c:Cl)(x:List fq×Int×Int):
  aw Tryz.prog 2 WK (QC c34.jW (ER k p x).1 p c (ER k p x).2)
   ⟨kR 66 [(0,.rv (.one (.ptr 0 0))),(1,.rv (.one (.ptr 1 0))),(4,.rv (.one (.ptr 2 0))),(5,lL x.1),(6,an .i64 x.2.1),(7,an .i64 x.2.2)],[xB k p,cB c,bQ]⟩:=by
 refine Au k p hw.kr hw.hp x.1 x.2.2 0 rfl ?_;exact cM (X:=[_])
theorem GI(k:Kr)(p:Nat)(hw:KW k p)(c:Cl):
  body Tryz.prog c34 [.rv (.one (.ptr 0 0)),.rv (.one (.ptr 1 0))] [xB k p,cB c] (TC (nc k p c).1 p c (nc k p c).2):=by
 have hs:=J1 k p hw c (mg (aW k.ps p) c);have hg:=dM hw.hp;rw[<-io hw.hp]at hg;have hl:(aW k.ps p).length<=2097152:=by rw[io hw.hp];have:=hw.kr.sl _ (Wl hw.hp);omega
 have hS:nc k p c=ER k p (mg (aW k.ps p) c):=rfl;rw[hS];clear hS;refine ag hg ?_;generalize aW k.ps p=S at hl hs⊢;refine bA (fun h7=>?_) (fun h7=>?_)
 .have h7:c.ah=7:=h7;rw[mg,if_pos h7]at hs⊢;refine Gz S hl c.fd ?_;refine⟨_,View.o1 3 [0,1,2] [] ?_,hs⟩
  .exact .pt rfl rfl (.eq rfl (bx _ _)) (.pt rfl rfl (.eq rfl (ct _)) (.pt rfl rfl (.eq rfl (by simp[bQ])) (.nil _)))
 have h7:¬c.ah=7:=h7;rw[mg,if_neg h7]at hs⊢;refine bA (fun h8=>?_) (fun h8=>?_)
 .have h8:c.ah=8:=h8;rw[if_pos h8]at hs⊢;refine Mn S hl c.fd ?_;refine⟨_,View.o1 3 [0,1,2] [] ?_,hs⟩
  .exact .pt rfl rfl (.eq rfl (bx _ _)) (.pt rfl rfl (.eq rfl (ct _)) (.pt rfl rfl (.eq rfl (by simp[bQ])) (.nil _)))
 have h8:¬c.ah=8:=h8;rw[if_neg h8]at hs⊢;refine GA S hl c.fd c.aR ?_;refine⟨trivial,_,View.o1 3 [0,1,2] [] ?_,hs⟩
 .exact .pt rfl rfl (.eq rfl (bx _ _)) (.pt rfl rfl (.eq rfl (ct _)) (.pt rfl rfl (.eq rfl (by simp[bQ])) (.nil _)))
theorem rc(k:Kr)(p:Nat)(hw:KW k p)(c:Cl):aq Tryz.prog 34 [.rv (.one (.ptr 0 0)),.rv (.one (.ptr 1 0))] [xB k p,cB c] (TC (nc k p c).1 p c (nc k p c).2):=
 ce Tryz.func34 l34 (GI k p hw c)
end Kn
def c35:LF:= ⟨85,[.cell true 4 4],(.seq (.ai [qu 4 (.alloc [(qd 0),(qd 0),(qd 0),.aB])]) (.seq (.ai [qu 5 (.aF (qi 128))]) (.seq (.seq (.ai [qm 12 1,qu 13 (.aT 12),qf 14 1 13,ql 15 14,qu 16 (.aH .eql 15 (qi 11))]) (.cond 16 (.ai [qu 5 (.aF (qi 64))]) .skip)) (.cI (.seq (.ai [qm 18 0,qm 19 1,qu 20 (.aT 19),qf 21 2 20,ql 22 21,qm 23 5,qu 24 (qc 56 [18,22,23]),qm 17 24,qu 25 (.ext 17 0),qu 26 (.ext 17 1),qu 27 (.ext 17 2),qu 6 (.alloc [(qd 0),(qd 0)]),qw (.store 2 6 25),qm 7 26,qm 8 27]) (.seq (.seq (.ai [qm 28 8,qu 29 (.aH .neq 28 (qi 0))]) (.cond 29 (.seq (.ai [qm 30 8,qu 31 (.build [(qd 0),(qd 0),(qd 0),.aB] [(0,1,30)]),qw (.store 4 4 31)]) .ret) .skip)) (.seq (.ai [qm 32 0,qu 33 (.aT 32),qf 34 0 33,qf 35 0 34,ql 36 35,qm 37 7,qu 38 (.cr 9 36 37),qL 39 9 38,qu 9 (.alloc [(qd 0),.aB,.aB,(.aa (.val (.string ⟨#[]⟩))),(qd 0),.aB,(qd 0),(qd 0),(qd 0)]),qw (.store 9 9 39)]) (.seq (.seq (.ai [qm 40 1,qu 41 (.aT 40),qf 42 1 41,ql 43 42,qu 44 (.aH .eql 43 (qi 11))]) (.cond 44 (.seq (.seq (.ai [qf 45 0 9,ql 46 45,qu 47 (.aH .neq 46 (qi 2))]) (.cond 47 (.seq (.ai [qu 48 (.build [(qd 0),(qd 0),(qd 0),.aB] [(0,1,(qi 11))]),qw (.store 4 4 48)]) .ret) .skip)) (.seq (.ai [qL 49 9 9,qu 50 (qc 65 [49]),qu 51 (qc 64 [50,(.c (.rv (.one (.aa (.val (.string ⟨#[10]⟩))))))]),qm 10 51]) (.seq (.ai [qf 52 2 9,ql 53 52,qu 54 (.len 1 53),qm 55 10,qu 56 (.Oa 55),qu 57 (.build [(qd 0),(qd 0),(qd 0),.aB] [(1,1,54),(3,1,56)]),qw (.store 4 4 57)]) .ret))) .skip)) (.seq (.ai [qf 58 1 9,ql 59 58,qu 60 (.len 1 59),qf 61 2 9,ql 62 61,qu 63 (.len 1 62),qu 64 (.aH .add 60 63),qf 65 5 9,ql 66 65,qu 67 (.len 1 66),qu 68 (.aH .add 64 67),qm 11 68]) (.seq (.seq (.bU [qf 69 0 9,ql 70 69,qu 71 (.aH .eql 70 (qi 5)),qm 72 71,qg 73 (.aF 0) 72 true,qg 74 (.aT 73) 72 true,qg 75 (.bX 0 74) 72 true,qg 76 (.load true 3 75) 72 true,qg 77 (.bX 6 9) 72 true,qg 78 (.load false 1 77) 72 true,qg 79 (qc 29 [76,78]) 72 true,qu 80 (.pick 72 79 (qb false))] [(.cons 0 none (.cons 1 none (.cons 2 none (.cons 3 none (.cons 4 none (.cons 5 none (.cons 6 none (.cons 7 none (.cons 8 none (.cons 9 none (.cons 10 (some []) (.cons 11 none .nil))))))))))))]) (.cond 80 (.ai [qu 11 (.aF (qi 1))]) .skip)) (.seq (.ai [qf 81 0 9,ql 82 81,qm 83 11,qu 84 (.build [(qd 0),(qd 0),(qd 0),.aB] [(1,1,82),(2,1,83)]),qw (.store 4 4 84)]) .ret)))))))))))⟩
namespace bp
def jL(sep:cQ)(l:List cQ):cQ:=Lib.join l sep
theorem Ay(l:List cQ):(l.map b7).map (·.data.toList)=l:=by rw[aaS];exact List.map_id'' (fun _=>rfl) l
theorem Ms(l:List cQ)(sep:cQ)(hN:l.length<=4194304)(hlen:(jL sep l).length<=140737488355328){m:Mem}{K:CV->Mem->Prop}(h:K (vT (jL sep l)) m):aq Tryz.prog 64 [Z6 l,vT sep] m K:=by
 refine⟨⟨Tryz.f64,Tryz.func64,rfl,by decide⟩,fun ρ w vs hM hl hd=>?_⟩
 obtain⟨v0,h0,d0⟩:=hd 0 _ rfl;obtain⟨v1,h1,d1⟩:=hd 1 _ rfl;have BJ:v1= .string (b7 sep):=(bJ d1).1;have A7:vs=[v0,v1]:=by
  match vs,hl with
  | [a,b],_=>simp at h0 h1;rw[h0,h1]
 have iu:∀(W':World)(v:Value),v= .string (b7 (jL sep l))->Below w.heap.size w W'->∃RI r m' ρ',Ending.returned v= .returned RI/\K r m'/\aA ρ' m' W'/\bV ρ' W' r RI/\Ext ρ m w ρ' m' W':=by
  rintro W' v rfl hb;refine⟨_,_,m,ρ,rfl,h,hM.su ⟨hb.size,fun b hS=>hb.block b (hM.S b hS),fun k hk=>hb.block _ (hM.a7 k hk).1⟩,cZ.val _ rfl,?_⟩
  exact⟨Pq _,fun _ _=>rfl,fun _ h=>h,fun _ h=>.inl h,fun k h=>.inr ⟨k,h,rfl⟩,fun b qn _=>hb.block b qn,hb.size,hb.os,hb.tape,hb.output⟩
 have hD:cZ ρ.S w (.sl 1 (l.map tD)) v0:=d0;rw[A7,BJ];generalize Im:l.map tD=elems at hD;cases hD with
 |nil _ a cap hc=>
  have:l=[]:=by simpa using Im
  subst this;refine(Ge a cap (b7 sep) w).mono fun e W'⟨he,hw⟩=>?_
  subst he;exact iu W' _ rfl (hw▸Below.refl _ _)
 |sl _ _ b off cap u hS pY bl dn hc bY=>
  have WL:elems.length=(l.map b7).length:=by rw[<-Im];simp
  rw[WL]at pY⊢;refine(L7 b off cap (l.map b7) (b7 sep) w (fun j x hj=>?_) (hM.S b hS) (by rw[KB];omega) pY (by rw[Ay];exact hlen)).mono fun e W'⟨he,hw⟩=>?_
  .rw[NO]at hj;cases WM:l[j]? with
   |none=>rw[WM]at hj;cases hj
   |some t=>
    rw[WM]at hj;simp only[Wn,Wm]at hj;subst hj;have e1:elems[j]? =some [.val (.string (b7 t))]:=by rw[<-Im,NO,WM];rfl
    have e2:=hc j _ 0 _ e1 rfl;have e3:=bY j _ 0 _ e1 rfl;have e4:u j 0= .string (b7 t):=by
     generalize u j 0=x at e3;cases e3 with
     |val _ _=>rfl
    rw[e4]at e2;simpa using e2
  .subst he;refine iu W' _ ?_ hw;rw[Ay];rfl
end bp
namespace Kn
def pR(e:NE):bp.cQ:=e.1.data.toList
def tB(t:bp.cQ):List (List Dt):=fB (t.map fun b=>((b.toNat:Nat):Int))
def C8(o:Obj):bp.cQ:=bp.jL [10] ((o.aj.map ma).map pR)
def ES(k:Kr)(o:Obj):Int:=if o.ah=5/\eU k.ps o.aM=true then 1 else yq (yq o.data.length o.aj.length) o.ak.length
def yr(k:Kr)(c:Cl)(o:Obj):An:=
 if c.ah=11 then(if o.ah≠2 then An.no 11 else⟨0,o.aj.length,0,tB (C8 o)⟩)else⟨0,o.ah,ES k o,[]⟩
def nf(k:Kr)(c:Cl)(w:(Int×Int)×Int×Int):An:=if w.2.2≠0 then An.no w.2.2 else yr k c (lW k.l w.2.1)
def J2(c:Cl):Int:=if c.ah=11 then 64 else 128
def jM(k:Kr)(p:Nat)(c:Cl):Kr×An:=(k,nf k c (bv k p c.fd (J2 c)))
theorem SY(es:List NE):es.map Uk=(es.map pR).map bp.tD:=by
 rw[aaS];refine abe fun e _=>?_
 obtain⟨t,ht⟩:=bp.x5 e.1;show [Dt.val (.string e.1)]=[Dt.val (.string (bp.b7 e.1.data.toList))];rw[ht];rfl
theorem Az:∀(l:List bp.cQ)(n:Nat),(∀t,t∈l->t.length<=n)->(bp.jL [10] l).length<=l.length*(n+1)
 | [],_,_=>by simp[bp.jL,Lib.join]
 | [t],n,h=>by have:=h t aI;simp[bp.jL,Lib.join];omega
 |t::u::r,n,h=>by
  have h1:=h t aI;have h2:=Az (u::r) n fun x hx=>h x (by simp[hx])
  have e:(bp.jL [10] (t::u::r)).length=t.length+1+(bp.jL [10] (u::r)).length:=by simp[bp.jL,Lib.join];omega
  rw[e];simp only[Wo]at h2⊢;have e2:(r.length+1+1)*(n+1)=(r.length+1)*(n+1)+(n+1):=by rw[aas (r.length+1) 1 (n+1),aaY]
  rw[e2];omega
theorem GJ(t:bp.cQ):js (bp.b7 t)=af (tB t):=by show t.map _=_;rw[af,tB,fB,aaS,aaS];rfl
theorem l35:bs Tryz.prog Tryz.f35=some c35.er:=by kernel_rfl
def C18:LC:=bH (bH (bH c35.code))
def G18:LC:=ov C18
theorem WN{m:Mem}{e n x:Int}{id:Nat}{d:List (List Dt)}{Z:Nat->Prop}{σ:Nat->Nat}(hz:Z id)(hm:m[id]? =some (.row 1 (af d))):
  po σ m Z (.rv (.agg [.aa (.val (.int .i64 e)),.aa (.val (.int .i64 n)),.aa (.val (.int .i64 x)),.row id 1 0 none])) (An.cv ⟨e,n,x,d⟩):=
 .rv (.agg rfl fun i c c' h1 h2=>by
  match i,h1,h2 with
  |0,h1,h2=>cases h1;cases h2;exact .aQ (.aa _)
  |1,h1,h2=>cases h1;cases h2;exact .aQ (.aa _)
  |2,h1,h2=>cases h1;cases h2;exact .aQ (.aa _)
  |3,h1,h2=>cases h1;cases h2;exact .eZ (gq hz hm)
  |n+4,h1,h2=>simp at h1)
theorem GK(k:Kr)(p:Nat)(hw:KW k p)(c:Cl)(need:Int):
  aw Tryz.prog 2 G18 (QC c35.jW k p c (nf k c (bv k p c.fd need)))
   ⟨kR 85 [(0,.rv (.one (.ptr 0 0))),(1,.rv (.one (.ptr 1 0))),(4,.rv (.one (.ptr 2 0))),(5,an .i64 need)],[xB k p,cB c,bQ]⟩:=by
 refine je k p hw c.fd need 0 rfl ?_;have hh:= @KW.held k p hw c.fd need;generalize bv k p c.fd need=w at hh⊢;obtain⟨⟨o,r⟩,b,e⟩:=w;refine bt (fun he=>?_) (fun he=>?_)
 .have he:e≠0:=he;have e1:nf k c ((o,r),b,e)=An.no e:=by rw[nf,if_pos he]
  rw[e1];exact cM (X:=[_,_])
 have he:e=0:=he;subst he;obtain⟨n,j,h1,h2,h3,h4,h5⟩:=hh rfl;have h3:b=j:=h3;subst h3;have BG:=hw.kr.sm _ (Wl h4);have Nh:=hw.nm _ (Wl h4);have e1:nf k c ((o,r),((j:Nat):Int),0)=yr k c k.l[j]:=by rw[nf,if_neg aI,rb h4]
 rw[e1];refine ag (gI h4) ?_;generalize k.l[j]=ob at BG Nh⊢;refine bA (fun C9=>?_) (fun C9=>?_)
 .have C9:c.ah=11:=C9;rw[yr,if_pos C9];refine bt (fun DX=>?_) (fun DX=>?_)
  .have DX:ob.ah≠2:=DX;rw[if_pos DX];exact cM (X:=[_,_,_])
  have DX:¬ob.ah≠2:=fun h=>h DX
  rw[if_neg DX];obtain⟨es,nD⟩:=BG.t.2.1;have Im:es.length<=8:=by have:=BG.e;rw[nD]at this;simpa using this
  have NU:ob.aj.map ma=es:=by rw[nD,lO]
  rw[NU]at Nh;have hN:C8 ob=bp.jL [10] (es.map pR):=by rw[C8,NU]
  rw[hN];have hJ:(bp.jL [10] (es.map pR)).length<=200:=by
   have:=Az (es.map pR) 12 fun t ht=>by obtain⟨e,he,rfl⟩:=Z5.1 ht;have:=Nh e he;show e.1.data.toList.length<=12;rwa [aaZ]
   rw[KB]at this;omega
  refine JB ob es nD om ?_;rw[SY];refine bp.Ms (es.map pR) [10] (by rw[KB];omega) om ?_
  have dn:(bp.b7 (bp.jL [10] (es.map pR))).size<=140737488355328:=by rw[bp.lq];omega
  have hR:=GJ (bp.jL [10] (es.map pR));generalize bp.jL [10] (es.map pR)=T at dn hR;refine⟨dn,?_⟩;refine⟨_,_,View.o 6 [0,1] [5] (.put (WN rfl (congrArg (fun x=>some (Bk.row 1 x)) hR)) .nil) (.pt rfl rfl (.eq rfl (bx _ _)) (.pt rfl rfl (.eq rfl (ct _)) (.nil _))),rfl,rfl⟩
 have C9:¬c.ah=11:=C9;rw[yr,if_neg C9];have hq:(ob.ak.length:Int)=((ob.ak.map bo.enc).length:Int):=by rw[KB]
 refine bA (fun h5=>?_) (fun h5=>?_)
 .have h5:ob.ah=5:=h5;refine mY k.l k.ops k.ps ob.aM ?_;refine⟨trivial,?_⟩;cases hl:eU k.ps ob.aM with
  |true=>
   rw[ES,if_pos ⟨h5,hl⟩];exact cM (X:=[_,_,_])
  |false=>
   rw[ES,if_neg (by simp[hl]),hq]
   exact cM (X:=[_,_,_])
 .have h5:¬ob.ah=5:=h5;rw[ES,if_neg (fun h=>h5 h.1),hq]
  refine⟨trivial,?_⟩;exact cM (X:=[_,_,_])
theorem Da(k:Kr)(p:Nat)(hw:KW k p)(c:Cl):
  body Tryz.prog c35 [.rv (.one (.ptr 0 0)),.rv (.one (.ptr 1 0))] [xB k p,cB c] (TC (jM k p c).1 p c (jM k p c).2):=by
 have hs:=fun need=>GK k p hw c need
 refine bA (fun h=>?_) (fun h=>?_)
 .have h:c.ah=11:=h;have e:jM k p c=(k,nf k c (bv k p c.fd 64)):=by rw[jM,J2,if_pos h]
  rw[e];refine⟨_,View.o1 3 [0,1,2] [] ?_,hs 64⟩
  .exact .pt rfl rfl (.eq rfl (bx _ _)) (.pt rfl rfl (.eq rfl (ct _)) (.pt rfl rfl (.eq rfl (by simp[bQ])) (.nil _)))
 .have h:¬c.ah=11:=h;have e:jM k p c=(k,nf k c (bv k p c.fd 128)):=by rw[jM,J2,if_neg h]
  rw[e];refine⟨_,View.o1 3 [0,1,2] [] ?_,hs 128⟩
  .exact .pt rfl rfl (.eq rfl (bx _ _)) (.pt rfl rfl (.eq rfl (ct _)) (.pt rfl rfl (.eq rfl (by simp[bQ])) (.nil _)))
theorem uH(k:Kr)(p:Nat)(hw:KW k p)(c:Cl):aq Tryz.prog 35 [.rv (.one (.ptr 0 0)),.rv (.one (.ptr 1 0))] [xB k p,cB c] (TC (jM k p c).1 p c (jM k p c).2):=
 ce Tryz.func35 l35 (Da k p hw c)
end Kn
def c36:LF:= ⟨142,[.cell true 4 4],(.seq (.ai [qu 4 (.alloc [(qd 0),(qd 0),(qd 0),.aB])]) (.seq (.ai [qu 5 (.aF (qi 24))]) (.seq (.seq (.ai [qm 16 1,qu 17 (.aT 16),qf 18 1 17,ql 19 18,qu 20 (.aH .eql 19 (qi 14))]) (.cond 20 (.ai [qu 5 (.aF (qi 40))]) .skip)) (.cI (.seq (.ai [qm 22 0,qm 23 1,qu 24 (.aT 23),qf 25 2 24,ql 26 25,qm 27 5,qu 28 (qc 56 [22,26,27]),qm 21 28,qu 29 (.ext 21 0),qu 30 (.ext 21 1),qu 31 (.ext 21 2),qu 6 (.alloc [(qd 0),(qd 0)]),qw (.store 2 6 29),qm 7 30,qm 8 31]) (.seq (.seq (.ai [qm 32 8,qu 33 (.aH .neq 32 (qi 0))]) (.cond 33 (.seq (.ai [qm 34 8,qu 35 (.build [(qd 0),(qd 0),(qd 0),.aB] [(0,1,34)]),qw (.store 4 4 35)]) .ret) .skip)) (.seq (.seq (.ai [qm 36 1,qu 37 (.aT 36),qf 38 1 37,ql 39 38,qu 40 (.aH .eql 39 (qi 13))]) (.cond 40 (.seq (.ai [qm 42 1,qu 43 (.aT 42),qf 44 8 43,ql 45 44,qu 46 (.Oc 45),qu 47 (qc 66 [46]),qm 41 47,qu 48 (.ext 41 0),qu 49 (.ext 41 1),qu 50 (.ext 41 2),qm 9 48,qm 10 49,qm 11 50]) (.seq (.ai [qm 51 11,qu 52 (.aH .neq 51 (qi 0))]) (.cond 52 (.seq (.ai [qm 53 11,qu 54 (.build [(qd 0),(qd 0),(qd 0),.aB] [(0,1,53)]),qw (.store 4 4 54)]) .ret) .skip))) .skip)) (.cI (.seq (.bU [qm 56 0,qu 57 (.aT 56),qf 58 0 57,qf 59 0 58,ql 60 59,qm 61 7,qm 62 1,qu 63 (.aT 62),qf 64 7 63,ql 65 64,qu 66 (qc 67 [60,61,65,(qb true),(qb false)]),qm 55 66,qu 67 (.ext 55 0),qu 68 (.ext 55 1),qu 12 (.alloc [(qd 0),(qd 0),(.aa (.val (.string ⟨#[]⟩)))]),qw (.store 3 12 67),qm 8 68] [(.cons 0 none (.cons 1 none (.cons 2 none (.cons 3 none (.cons 4 none (.cons 5 none (.cons 6 none (.cons 7 none (.cons 8 none (.cons 9 none (.yU (.cons 10 (some []) (.cons 11 none (.cons 12 none (.cons 13 none (.cons 14 (some [9,4]) (.cons 15 (some []) (.cons 16 none .nil))))))) (.cons 14 (some [9,4]) (.cons 10 (some []) (.cons 11 none (.cons 12 none (.cons 13 none (.cons 15 (some []) (.cons 16 none .nil))))))))))))))))))]) (.cI (.seq (.block 0 (.seq (.ai [qm 77 8,qu 78 (.aH .neq 77 (qi 0)),qm 76 78]) (.cond 76 .skip (.seq (.ai [qf 80 2 12,ql 81 80,qu 82 (.aH .eql 81 (.c (.rv (.one (.aa (.val (.string ⟨#[]⟩))))))),qm 79 82]) (.cond 79 (.ai [qu 8 (.aF (qi 8))]) (.seq (.ai [qm 84 1,qu 85 (.aT 84),qf 86 1 85,ql 87 86,qu 88 (.aH .eql 87 (qi 14)),qm 89 88,qg 90 (.bX 0 12) 89 true,qg 91 (.load false 1 90) 89 true,qg 92 (.aH .lss 91 (qi 0)) 89 true,qu 93 (.pick 89 92 (qb false)),qm 83 93]) (.cond 83 (.ai [qu 8 (.aF (qi 6))]) (.seq (.ai [qm 95 1,qu 96 (.aT 95),qf 97 1 96,ql 98 97,qu 99 (.aH .eql 98 (qi 14)),qm 94 99]) (.cond 94 (.seq (.bU [qm 101 0,qu 102 (.aT 101),qf 103 0 102,qf 104 0 103,ql 105 104,qf 106 1 12,ql 107 106,qf 108 2 12,ql 109 108,qu 110 (qc 68 [105,107,109]),qm 100 110,qu 111 (.ext 100 0),qu 112 (.ext 100 1),qu 113 (.ext 100 2),qm 13 111,qm 14 112,qm 15 113] [(.cons 0 none (.cons 1 none (.cons 2 none (.cons 3 none (.cons 4 none (.cons 5 none (.cons 6 none (.cons 7 none (.cons 8 none (.cons 9 (some []) (.cons 10 none (.cons 11 none (.cons 12 none (.cons 13 none (.cons 14 none (.cons 15 none (.cons 16 none .nil)))))))))))))))))]) (.ai [qm 114 0,qm 115 13,qm 116 15,qu 117 (qc 69 [114,115,116]),qm 8 117])) (.seq (.ai [qf 119 0 12,ql 120 119,qu 121 (.aH .geq 120 (qi 0)),qm 118 121]) (.cond 118 (.ai [qu 8 (.aF (qi 7))]) (.seq (.ai [qm 123 1,qu 124 (.aT 123),qf 125 1 124,ql 126 125,qu 127 (.aH .eql 126 (qi 13)),qm 122 127]) (.cond 122 (.bU [qm 129 0,qL 130 3 12,qm 131 1,qu 132 (.aT 131),qf 133 8 132,ql 134 133,qu 135 (.Oc 134),qu 136 (.build [(qd 0),.aB,.aB,(.aa (.val (.string ⟨#[]⟩))),(qd 0),.aB,(qd 0),(qd 0),(qd 0)] [(0,1,(qi 3)),(3,1,135)]),qu 137 (qc 70 [129,130,136]),qm 128 137,qu 138 (.ext 128 0),qu 139 (.ext 128 1),qm 8 139] [(.cons 0 none (.cons 1 none (.cons 2 none (.cons 3 none (.cons 4 none (.cons 5 none (.cons 6 (some [1]) (.cons 7 none (.cons 8 (some []) (.cons 9 none (.cons 10 none (.cons 11 none (.cons 12 none .nil)))))))))))))]) (.ai [qm 70 0,qL 71 3 12,qu 72 (.build [(qd 0),.aB,.aB,(.aa (.val (.string ⟨#[]⟩))),(qd 0),.aB,(qd 0),(qd 0),(qd 0)] [(0,1,(qi 2))]),qu 73 (qc 70 [70,71,72]),qm 69 73,qu 74 (.ext 69 0),qu 75 (.ext 69 1),qm 8 75])))))))))))))) (.cI (.seq (.ai [qm 140 8,qu 141 (.build [(qd 0),(qd 0),(qd 0),.aB] [(0,1,140)]),qw (.store 4 4 141)]) .ret)))))))))))))⟩
namespace Kn
def mh(d:List Int):bp.cQ:=d.map fun n=>UInt8.ofNat n.toNat
def uI(d:List Int):Obj:=⟨3,[],[],bp.b7 (mh d),0,[],0,0,0⟩
def Db:Obj:=⟨2,[],[],⟨#[]⟩,0,[],0,0,0⟩
theorem yu(k:Int)(t:ByteArray):Mp ⟨k,[],[],t,0,[],0,0,0⟩:=⟨⟨⟨⟨[],rfl⟩,⟨[],rfl⟩,aI⟩,aI,aI,aI,aI⟩,rfl⟩
def Dc(k:Kr)(f:R4):List Obj×Int×Int:=cL k.l f.cD (bp.b7 f.name)
def mi(k:Kr)(c:Cl)(f:R4):Kr×Int:=
 if f.f4≠0 then(k,f.f4)
 else if f.name=[]then(k,8)
 else if c.ah=14 then(if f.br<0 then(k,6)else(cV k (Dc k f).1 (Dc k f).2.2,(Dc k f).2.2))
 else if f.br>=0 then(k,7)
 else if c.ah=13 then((cJ k f (uI c.data)).1,(cJ k f (uI c.data)).2.2)
 else((cJ k f Db).1,(cJ k f Db).2.2)
def wI(c:Cl):Int:=if c.ah=14 then 40 else 24
def gZ(k:Kr)(c:Cl)(w:(Int×Int)×Int×Int):Kr×Int:=
 if w.2.2≠0 then(k,w.2.2)
 else if c.ah=13/\(bp.cm (mh c.data)).2.2≠0 then(k,(bp.cm (mh c.data)).2.2)
 else mi k c (fW k w.2.1 c.bm true false)
def Hu(x:Kr×Int):Kr×An:=(x.1,An.no x.2)
def kz(k:Kr)(p:Nat)(c:Cl):Kr×An:=Hu (gZ k c (bv k p c.fd (wI c)))
theorem l36:bs Tryz.prog Tryz.f36=some c36.er:=by kernel_rfl
def WO:LC:=bH (bH (bH c36.code))
def SZ:LC:=ov WO
def WQ:LC:=bH (bH (bH SZ))
def S0:LC:=ov WQ
def WR:LC:=bH S0
def S1:LC:=ov WR
def S2:LC:=bH S1
def S3:LC:=ov S2
theorem GL(k:Kr)(p:Nat)(c:Cl)(e:Int):
  aw Tryz.prog 2 S3 (QC c36.jW k p c (An.no e)) ⟨kR 142 [(0,.rv (.one (.ptr 0 0))),(1,.rv (.one (.ptr 1 0))),(4,.rv (.one (.ptr 2 0))),(8,an .i64 e)],[xB k p,cB c,bQ]⟩:=cM (X:=[_])
theorem WS(t:bp.cQ){A B:Prop}(ha:t=[]->A)(hb:t≠[]->B): @Bool.rec (fun _=>Prop) B A ((bp.b7 t).toList==(⟨#[]⟩:ByteArray).toList):=bp.jG (b:=[]) ha hb
theorem m3{σ:Nat->Nat}(hσ:σ 0=0/\σ 1=1/\σ 2=2){Z:Nat->Prop}(hZ:¬Z 0/\¬Z 1/\¬Z 2){k:Kr}{p:Nat}{c:Cl}{X:Mem}:eS σ (xB k p::cB c::bQ::X) Z 0 [xB k p,cB c,bQ]:=by
 obtain⟨h0,h1,h2⟩:=hσ;obtain⟨z0,z1,z2⟩:=hZ;exact .put (by rw[h0];exact z0) (by rw[h0];rfl) (.eq rfl (bx _ _)) (.put (by rw[h1];exact z1) (by rw[h1];rfl) (.eq rfl (ct _)) (.put (by rw[h2];exact z2) (by rw[h2];rfl) (.eq rfl (by simp[bQ])) (.nil _)))
theorem J3(k:Kr)(p:Nat)(hw:KW k p)(c:Cl)(f:R4):
  aw Tryz.prog 2 S1 (QC c36.jW (Hu (mi k c f)).1 p c (Hu (mi k c f)).2)
   ⟨kR 142 [(0,.rv (.one (.ptr 0 0))),(1,.rv (.one (.ptr 1 0))),(4,.rv (.one (.ptr 2 0))),(8,an .i64 f.f4),(12,.rv (.one (.ptr 3 0)))],[xB k p,cB c,bQ,.var ((Qn f).map .aa)]⟩:=by
 have Dd:=fun k e=>GL k p c e
 obtain⟨br,cD,name,f4⟩:=f;refine bt (fun he=>?_) (fun he=>?_)
 .have he:f4≠0:=he;have e1:mi k c ⟨br,cD,name,f4⟩=(k,f4):=by rw[mi,if_pos he]
  rw[e1];refine⟨_,View.o 4 [0,1,2] [] ?_ (m3 ⟨rfl,rfl,rfl⟩ ⟨ez rfl,ez rfl,ez rfl⟩),Dd k f4⟩;repeat(first|exact .nil|refine .ar ?_|refine .eq rfl ?_)
 have he:f4=0:=he;subst he;refine WS name (fun h1=>?_) (fun h1=>?_)
 .have e1:mi k c ⟨br,cD,name,0⟩=(k,8):=by rw[mi,if_neg aI,if_pos h1]
  rw[e1];refine⟨_,View.o 4 [0,1,2] [] ?_ (m3 ⟨rfl,rfl,rfl⟩ ⟨ez rfl,ez rfl,ez rfl⟩),Dd k 8⟩;repeat(first|exact .nil|refine .ar ?_|refine .eq rfl ?_)
 have e0:mi k c ⟨br,cD,name,0⟩=if c.ah=14 then(if br<0 then(k,6)else(cV k (Dc k ⟨br,cD,name,0⟩).1 (Dc k ⟨br,cD,name,0⟩).2.2,(Dc k ⟨br,cD,name,0⟩).2.2))
   else if br>=0 then(k,7)
   else if c.ah=13 then((cJ k ⟨br,cD,name,0⟩ (uI c.data)).1,(cJ k ⟨br,cD,name,0⟩ (uI c.data)).2.2)
   else((cJ k ⟨br,cD,name,0⟩ Db).1,(cJ k ⟨br,cD,name,0⟩ Db).2.2):=by rw[mi,if_neg aI,if_neg h1]
 rw[e0];refine bA (fun J4=>?_) (fun J4=>?_)
 .have J4:c.ah=14:=J4;rw[if_pos J4];refine aJ (fun ho=>?_) (fun ho=>?_)
  .have ho:br<0:=ho;rw[if_pos ho];refine⟨_,View.o 4 [0,1,2] [] ?_ (m3 ⟨rfl,rfl,rfl⟩ ⟨ez rfl,ez rfl,ez rfl⟩),Dd k 6⟩;repeat(first|exact .nil|refine .ar ?_|refine .eq rfl ?_)
  have ho:¬br<0:=ho;rw[if_neg ho];refine cj (beq_iff_eq.2 J4) ?_;refine CT k.l hw.Bg cD (bp.b7 name) ?_;refine⟨trivial,?_⟩;refine lV k p hw.kr _ _ 0 rfl ?_;refine⟨_,View.o 4 [0,1,2] [] ?_ (m3 ⟨rfl,rfl,rfl⟩ ⟨ez rfl,ez rfl,ez rfl⟩),Dd _ _⟩;repeat(first|exact .nil|refine .ar ?_|refine .eq rfl ?_)
 have J4:¬c.ah=14:=J4;rw[if_neg J4];refine tJ (beq_eq_false_iff_ne.2 J4) ?_;refine aJ (fun ho=>?_) (fun ho=>?_)
 .have ho:br>=0:=ho;rw[if_pos ho];refine⟨_,View.o 4 [0,1,2] [] ?_ (m3 ⟨rfl,rfl,rfl⟩ ⟨ez rfl,ez rfl,ez rfl⟩),Dd k 7⟩;repeat(first|exact .nil|refine .ar ?_|refine .eq rfl ?_)
 have ho:¬br>=0:=ho;rw[if_neg ho];refine bA (fun Bh=>?_) (fun Bh=>?_)
 .have Bh:c.ah=13:=Bh;rw[if_pos Bh];refine ag (lm c.data) ?_;refine⟨⟨rfl,trivial⟩,?_⟩;refine ld (yp _ _ _ _) (q9 k p hw ⟨br,cD,name,0⟩ (uI c.data) (yu _ _) 0 rfl ?_);refine⟨trivial,?_⟩;refine⟨_,View.o 4 [0,1,2] [] ?_ (m3 ⟨rfl,rfl,rfl⟩ ⟨ez rfl,ez rfl,ez rfl⟩),Dd _ _⟩;repeat(first|exact .nil|refine .ar ?_|refine .eq rfl ?_)
 have Bh:¬c.ah=13:=Bh;rw[if_neg Bh];refine ld (yp _ _ _ _) (q9 k p hw ⟨br,cD,name,0⟩ Db (yu _ _) 0 rfl ?_);refine⟨_,View.o 4 [0,1,2] [] ?_ (m3 ⟨rfl,rfl,rfl⟩ ⟨ez rfl,ez rfl,ez rfl⟩),Dd _ _⟩;repeat(first|exact .nil|refine .ar ?_|refine .eq rfl ?_)
theorem AA(k:Kr)(p:Nat)(hw:KW k p)(c:Cl)(au:Int)(R:Kr×Int)(hR:R=mi k c (fW k au c.bm true false)):
  aw Tryz.prog 2 S0 (QC c36.jW (Hu R).1 p c (Hu R).2)
   ⟨kR 142 [(0,.rv (.one (.ptr 0 0))),(1,.rv (.one (.ptr 1 0))),(4,.rv (.one (.ptr 2 0))),(7,an .i64 au)],[xB k p,cB c,bQ]⟩:=by
 have hs:=J3 k p hw c (fW k au c.bm true false);rw[<-hR]at hs;refine⟨?_,?_⟩
 .refine pQ k p hw au c.bm true false ?_;refine⟨trivial,⟨rfl,rfl,trivial⟩,trivial,_,View.o1 4 [0,1,2,3] [] ?_,hs⟩
  .exact .pt rfl rfl (.eq rfl (bx _ _)) (.pt rfl rfl (.eq rfl (ct _)) (.pt rfl rfl (.eq rfl (by simp[bQ])) (.pm rfl rfl rfl)))
 .refine⟨⟨rfl,rfl,trivial⟩,?_⟩;refine pQ k p hw au c.bm true false ?_;refine⟨trivial,trivial,_,View.o1 4 [0,1,2,3] [] ?_,hs⟩
  .exact .pt rfl rfl (.eq rfl (bx _ _)) (.pt rfl rfl (.eq rfl (ct _)) (.pt rfl rfl (.eq rfl (by simp[bQ])) (.pm rfl rfl rfl)))
theorem J5(k:Kr)(p:Nat)(hw:KW k p)(c:Cl)(need:Int):
  aw Tryz.prog 2 SZ (QC c36.jW (Hu (gZ k c (bv k p c.fd need))).1 p c (Hu (gZ k c (bv k p c.fd need))).2)
   ⟨kR 142 [(0,.rv (.one (.ptr 0 0))),(1,.rv (.one (.ptr 1 0))),(4,.rv (.one (.ptr 2 0))),(5,an .i64 need)],[xB k p,cB c,bQ]⟩:=by
 refine je k p hw c.fd need 0 rfl ?_;generalize bv k p c.fd need=w;obtain⟨⟨o,r⟩,b,e⟩:=w;refine bt (fun he=>?_) (fun he=>?_)
 .have he:e≠0:=he;have e1:gZ k c ((o,r),b,e)=(k,e):=by rw[gZ,if_pos he]
  rw[e1];exact cM (X:=[_,_])
 have he:e=0:=he;subst he;refine bA (fun Bh=>?_) (fun Bh=>?_)
 .have Bh:c.ah=13:=Bh;refine ag (lm c.data) ?_;refine bp.uh (mh c.data) ?_;refine bt (fun hs=>?_) (fun hs=>?_)
  .have hs:(bp.cm (mh c.data)).2.2≠0:=hs;have e1:gZ k c ((o,r),b,0)=(k,(bp.cm (mh c.data)).2.2):=by rw[gZ,if_neg aI,if_pos ⟨Bh,hs⟩]
   rw[e1];exact cM (X:=[_,_])
  .have hs:¬(bp.cm (mh c.data)).2.2≠0:=fun h=>h hs
   refine⟨_,View.o 4 [0,1,2] [] ?_ (m3 ⟨rfl,rfl,rfl⟩ ⟨ez rfl,ez rfl,ez rfl⟩),AA k p hw c b (gZ k c ((o,r),b,0)) (by rw[gZ,if_neg aI,if_neg (fun h=>hs h.2)])⟩
   repeat(first|exact .nil|refine .ar ?_|refine .eq rfl ?_)
 .have Bh:¬c.ah=13:=Bh;refine⟨_,View.o 4 [0,1,2] [] ?_ (m3 ⟨rfl,rfl,rfl⟩ ⟨ez rfl,ez rfl,ez rfl⟩),AA k p hw c b (gZ k c ((o,r),b,0)) (by rw[gZ,if_neg aI,if_neg (fun h=>Bh h.1)])⟩
  repeat(first|exact .nil|refine .ar ?_|refine .eq rfl ?_)
theorem qY(k:Kr)(p:Nat)(hw:KW k p)(c:Cl):
  body Tryz.prog c36 [.rv (.one (.ptr 0 0)),.rv (.one (.ptr 1 0))] [xB k p,cB c] (TC (kz k p c).1 p c (kz k p c).2):=by
 have hs:=fun need=>J5 k p hw c need
 refine bA (fun h=>?_) (fun h=>?_)
 .have h:c.ah=14:=h;have e:kz k p c=Hu (gZ k c (bv k p c.fd 40)):=by rw[kz,wI,if_pos h]
  rw[e];refine⟨_,View.o 3 [0,1,2] [] ?_ (m3 ⟨rfl,rfl,rfl⟩ ⟨ez rfl,ez rfl,ez rfl⟩),hs 40⟩;repeat(first|exact .nil|refine .ar ?_|refine .eq rfl ?_)
 .have h:¬c.ah=14:=h;have e:kz k p c=Hu (gZ k c (bv k p c.fd 24)):=by rw[kz,wI,if_neg h]
  rw[e];refine⟨_,View.o 3 [0,1,2] [] ?_ (m3 ⟨rfl,rfl,rfl⟩ ⟨ez rfl,ez rfl,ez rfl⟩),hs 24⟩;repeat(first|exact .nil|refine .ar ?_|refine .eq rfl ?_)
theorem rd(k:Kr)(p:Nat)(hw:KW k p)(c:Cl):aq Tryz.prog 36 [.rv (.one (.ptr 0 0)),.rv (.one (.ptr 1 0))] [xB k p,cB c] (TC (kz k p c).1 p c (kz k p c).2):=
 ce Tryz.func36 l36 (qY k p hw c)
end Kn
def c38:LF:= ⟨85,[.cell true 4 4],(.seq (.ai [qu 4 (.alloc [(qd 0),(qd 0),(qd 0),.aB])]) (.seq (.ai [qm 11 0,qm 12 1,qu 13 (.aT 12),qf 14 2 13,ql 15 14,qu 16 (qc 56 [11,15,(qi 256)]),qm 10 16,qu 17 (.ext 10 0),qu 18 (.ext 10 1),qu 19 (.ext 10 2),qu 5 (.alloc [(qd 0),(qd 0)]),qw (.store 2 5 17),qm 6 18,qm 7 19]) (.seq (.seq (.ai [qm 20 7,qu 21 (.aH .neq 20 (qi 0))]) (.cond 21 (.seq (.ai [qm 22 7,qu 23 (.build [(qd 0),(qd 0),(qd 0),.aB] [(0,1,22)]),qw (.store 4 4 23)]) .ret) .skip)) (.seq (.ai [qm 24 1,qu 25 (.aT 24),qf 26 8 25,ql 27 26,qu 28 (.build [.aB,(.aa (.val (.bool false))),(qd 0),(qd 0)] [(0,1,27)]),qu 8 (.alloc [.aB,(.aa (.val (.bool false))),(qd 0),(qd 0)]),qw (.store 4 8 28)]) (.seq (.seq (.ai [qm 29 1,qu 30 (.aT 29),qf 31 3 30,ql 32 31,qu 33 (.aH .geq 32 (qi 0))]) (.cond 33 (.seq (.seq (.bU [qm 35 0,qu 36 (.aT 35),qf 37 0 36,qf 38 2 37,ql 39 38,qm 40 0,qu 41 (.aT 40),qf 42 3 41,ql 43 42,qu 44 (.cr 4 39 43),qf 45 3 44,ql 46 45,qm 47 1,qu 48 (.aT 47),qf 49 3 48,ql 50 49,qu 51 (qc 73 [46,50]),qm 34 51,qu 52 (.ext 34 0),qu 53 (.ext 34 1),qf 54 2 8,qw (.store 2 54 52),qm 7 53] [(.cons 0 none (.cons 1 none (.cons 2 none (.cons 3 none (.cons 4 none (.cons 5 none (.cons 6 none (.cons 7 none (.cons 8 none (.cons 9 none (.cons 10 none (.cons 11 none (.cons 12 none (.cons 13 none (.cons 14 none (.cons 15 none (.cons 16 (some []) (.cons 17 none (.cons 18 none (.cons 19 none (.cons 20 none (.cons 21 (some []) (.cons 22 none .nil)))))))))))))))))))))))]) (.seq (.ai [qm 55 7,qu 56 (.aH .neq 55 (qi 0))]) (.cond 56 (.seq (.ai [qm 57 7,qu 58 (.build [(qd 0),(qd 0),(qd 0),.aB] [(0,1,57)]),qw (.store 4 4 58)]) .ret) .skip))) (.ai [qf 59 1 8,qw (.store 1 59 (qb true))])) .skip)) (.cI (.seq (.bU [qm 61 0,qu 62 (.aT 61),qf 63 0 62,qf 64 0 63,ql 65 64,qm 66 6,qL 67 4 8,qu 68 (qc 74 [65,66,67]),qm 60 68,qu 69 (.ext 60 0),qu 70 (.ext 60 1),qm 9 69,qm 7 70] [(.cons 0 none (.cons 1 none (.cons 2 none (.cons 3 none (.cons 4 none (.cons 5 none (.cons 6 none (.cons 7 (some []) (.cons 8 none (.cons 9 none (.cons 10 none (.cons 11 none (.cons 12 none .nil)))))))))))))]) (.seq (.seq (.ai [qm 71 0,qm 72 9,qm 73 7,qu 74 (qc 69 [71,72,73]),qm 7 74]) (.seq (.ai [qm 75 7,qu 76 (.aH .neq 75 (qi 0))]) (.cond 76 (.seq (.ai [qm 77 7,qu 78 (.build [(qd 0),(qd 0),(qd 0),.aB] [(0,1,77)]),qw (.store 4 4 78)]) .ret) .skip))) (.seq (.ai [qm 79 1,qu 80 (.aT 79),qf 81 8 80,ql 82 81,qu 83 (.len 1 82),qu 84 (.build [(qd 0),(qd 0),(qd 0),.aB] [(1,1,83)]),qw (.store 4 4 84)]) .ret)))))))))⟩
def c39:LF:= ⟨82,[.cell true 4 4],(.seq (.ai [qu 4 (.alloc [(qd 0),(qd 0),(qd 0),.aB])]) (.seq (.ai [qm 15 0,qm 16 1,qu 17 (.aT 16),qf 18 2 17,ql 19 18,qu 20 (qc 56 [15,19,(qi 512)]),qm 14 20,qu 21 (.ext 14 0),qu 22 (.ext 14 1),qu 23 (.ext 14 2),qu 5 (.alloc [(qd 0),(qd 0)]),qw (.store 2 5 21),qm 6 22,qm 7 23]) (.seq (.seq (.ai [qm 24 7,qu 25 (.aH .neq 24 (qi 0))]) (.cond 25 (.seq (.ai [qm 26 7,qu 27 (.build [(qd 0),(qd 0),(qd 0),.aB] [(0,1,26)]),qw (.store 4 4 27)]) .ret) .skip)) (.seq (.ai [qm 29 0,qu 30 (.aT 29),qf 31 0 30,qf 32 0 31,ql 33 32,qm 34 6,qu 35 (qc 75 [33,34]),qm 28 35,qu 36 (.ext 28 0),qu 37 (.ext 28 1),qu 38 (.ext 28 2),qu 9 (.alloc [.aB,(.aa (.val (.bool false))),(qd 0),(qd 0)]),qm 8 36,qw (.store 4 9 37),qm 7 38]) (.seq (.seq (.ai [qm 39 7,qu 40 (.aH .neq 39 (qi 0))]) (.cond 40 (.seq (.ai [qm 41 7,qu 42 (.build [(qd 0),(qd 0),(qd 0),.aB] [(0,1,41)]),qw (.store 4 4 42)]) .ret) .skip)) (.seq (.ai [qu 10 (.aF (qi (-1)))]) (.seq (.seq (.ai [qf 43 1 9,ql 44 43]) (.cond 44 (.seq (.bU [qm 46 0,qu 47 (.aT 46),qf 48 0 47,qf 49 2 48,ql 50 49,qm 51 0,qu 52 (.aT 51),qf 53 3 52,ql 54 53,qu 55 (.cr 4 50 54),qf 56 3 55,ql 57 56,qf 58 2 9,qL 59 2 58,qu 60 (qc 76 [57,59]),qm 45 60,qu 61 (.ext 45 0),qu 62 (.ext 45 1),qu 63 (.ext 45 2),qm 11 61,qm 12 62,qm 13 63] [(.cons 0 none (.cons 1 none (.cons 2 none (.cons 3 none (.cons 4 none (.cons 5 none (.cons 6 none (.cons 7 none (.cons 8 none (.cons 9 none (.cons 10 none (.cons 11 none (.cons 12 none (.cons 13 none (.cons 14 (some []) (.cons 15 none (.cons 16 none (.cons 17 none (.cons 18 none (.cons 19 none (.cons 20 none (.cons 21 none .nil))))))))))))))))))))))]) (.seq (.seq (.ai [qm 64 13,qu 65 (.aH .neq 64 (qi 0))]) (.cond 65 (.seq (.ai [qm 66 13,qu 67 (.build [(qd 0),(qd 0),(qd 0),.aB] [(0,1,66)]),qw (.store 4 4 67)]) .ret) .skip)) (.seq (.ai [qm 68 0,qm 69 11,qu 70 (qc 63 [68,69,(qi 0)])]) (.ai [qm 71 12,qm 10 71])))) .skip)) (.cI (.seq (.ai [qm 72 0,qm 73 8,qu 74 (qc 69 [72,73,(qi 0)])]) (.seq (.ai [qf 75 0 9,ql 76 75,qu 77 (.len 1 76),qm 78 10,qf 79 0 9,ql 80 79,qu 81 (.build [(qd 0),(qd 0),(qd 0),.aB] [(1,1,77),(2,1,78),(3,1,80)]),qw (.store 4 4 81)]) .ret))))))))))⟩
namespace Kn
def wJ(d:List Int)(g:(Int×Int)×Bool):bo:=⟨fB d,g.2,g.1.1,g.1.2⟩
def mj(k:Kr)(c:Cl)(r:List Obj×Int):Kr×An:=(cV k r.1 r.2,if r.2≠0 then An.no r.2 else⟨0,c.data.length,0,[]⟩)
def wK(k:Kr)(p:Nat)(c:Cl)(br:Int):Kr×An:=
 if c.fM>=0 then
  (if(pP (aW k.ps p) c.fM).2≠0 then(k,An.no (pP (aW k.ps p) c.fM).2)else mj k c (eJ k.l br (wJ c.data ((pP (aW k.ps p) c.fM).1,true))))
 else mj k c (eJ k.l br (wJ c.data ((0,0),false)))
def AB(k:Kr)(p:Nat)(c:Cl)(w:(Int×Int)×Int×Int):Kr×An:=if w.2.2≠0 then(k,An.no w.2.2)else wK k p c w.2.1
def ml(k:Kr)(p:Nat)(c:Cl):Kr×An:=AB k p c (bv k p c.fd 256)
theorem l38:bs Tryz.prog Tryz.f38=some c38.er:=by kernel_rfl
def WT:LC:=bH (bH (bH (bH (bH c38.code))))
def WU:LC:=ov WT
theorem J6(k:Kr)(p:Nat)(hw:KW k p)(c:Cl)(br:Int)(m:bo)(hm:m.data.length<=4194304):
  aw Tryz.prog 2 WU (QC c38.jW (mj k c (eJ k.l br m)).1 p c (mj k c (eJ k.l br m)).2)
   ⟨kR 85 [(0,.rv (.one (.ptr 0 0))),(1,.rv (.one (.ptr 1 0))),(4,.rv (.one (.ptr 2 0))),(6,an .i64 br),(8,.rv (.one (.ptr 3 0)))],[xB k p,cB c,bQ,.var (m.enc.map .aa)]⟩:=by
 refine LG k.l hw.mz br m hm ?_;generalize eJ k.l br m=r;obtain⟨l,e⟩:=r;refine⟨trivial,?_⟩;refine lV k p hw.kr l e 0 rfl ?_;refine bt (fun he=>?_) (fun he=>?_)
 .have he:e≠0:=he;rw[mj,if_pos he];exact cM (X:=[_,_])
 .have he:¬e≠0:=fun h=>h he
  have hq:(c.data.length:Int)=((fB c.data).length:Int):=by simp[fB]
  rw[mj,if_neg he,hq];exact cM (X:=[_,_])
theorem qE(k:Kr)(p:Nat)(hw:KW k p)(c:Cl)(hd:c.data.length<=4194304):
  body Tryz.prog c38 [.rv (.one (.ptr 0 0)),.rv (.one (.ptr 1 0))] [xB k p,cB c] (TC (ml k p c).1 p c (ml k p c).2):=by
 have hs:=fun br m hm=>J6 k p hw c br m hm
 have kj:(fB c.data).length<=4194304:=by simpa[fB]using hd
 refine je k p hw c.fd 256 0 rfl ?_;have hS:ml k p c=AB k p c (bv k p c.fd 256):=rfl;rw[hS];clear hS;generalize bv k p c.fd 256=w;obtain⟨⟨o,r⟩,b,e⟩:=w;refine bt (fun he=>?_) (fun he=>?_)
 .have he:e≠0:=he;rw[AB,if_pos he];exact cM (X:=[_,_])
 have he:e=0:=he;subst he;rw[AB,if_neg aI];refine aJ (fun h2=>?_) (fun h2=>?_)
 .have h2:c.fM>=0:=h2;have hg:=dM hw.hp;rw[<-io hw.hp]at hg;refine ag hg ?_;have e1:wK k p c b=if(pP (aW k.ps p) c.fM).2≠0 then(k,An.no (pP (aW k.ps p) c.fM).2)else mj k c (eJ k.l b (wJ c.data ((pP (aW k.ps p) c.fM).1,true))):=by rw[wK,if_pos h2]
  rw[e1];refine Mm (aW k.ps p) c.fM ?_;generalize pP (aW k.ps p) c.fM=g;obtain⟨⟨go,gr⟩,e⟩:=g;refine⟨trivial,trivial,?_⟩;refine bt (fun he=>?_) (fun he=>?_)
  .have he:e≠0:=he;rw[if_pos he];exact cM (X:=[_,_,_])
  have he:¬e≠0:=fun h=>h he
  rw[if_neg he];refine⟨_,View.o1 5 [0,1,2,4] [] ?_,hs b (wJ c.data ((go,gr),true)) kj⟩
  .exact .pt rfl rfl (.eq rfl (bx _ _)) (.pt rfl rfl (.eq rfl (ct _)) (.pt rfl rfl (.eq rfl (by simp[bQ])) (.pm rfl rfl rfl)))
 .have h2:¬c.fM>=0:=h2;have e1:wK k p c b=mj k c (eJ k.l b (wJ c.data ((0,0),false))):=by rw[wK,if_neg h2]
  rw[e1];refine⟨_,View.o1 5 [0,1,2,4] [] ?_,hs b (wJ c.data ((0,0),false)) kj⟩
  .exact .pt rfl rfl (.eq rfl (bx _ _)) (.pt rfl rfl (.eq rfl (ct _)) (.pt rfl rfl (.eq rfl (by simp[bQ])) (.pm rfl rfl rfl)))
theorem GM(k:Kr)(p:Nat)(hw:KW k p)(c:Cl)(hd:c.data.length<=4194304):aq Tryz.prog 38 [.rv (.one (.ptr 0 0)),.rv (.one (.ptr 1 0))] [xB k p,cB c] (TC (ml k p c).1 p c (ml k p c).2):=
 ce Tryz.func38 l38 (qE k p hw c hd)
def wL(k:Kr)(l:List Obj)(m:bo)(fd:Int):Kr×An:=(cV k l 0,⟨0,m.data.length,fd,m.data⟩)
def AD(k:Kr)(p:Nat)(r:List Obj×bo×Int):Kr×An:=
 if r.2.2≠0 then(k,An.no r.2.2)
 else if r.2.1.has=true then
  (if(fU (aW k.ps p) r.2.1.eE r.2.1.cn).2.2≠0 then(k,An.no (fU (aW k.ps p) r.2.1.eE r.2.1.cn).2.2)
   else wL (iL k p (fU (aW k.ps p) r.2.1.eE r.2.1.cn).1 0) r.1 r.2.1 (fU (aW k.ps p) r.2.1.eE r.2.1.cn).2.1)
 else wL k r.1 r.2.1 (-1)
def AE(k:Kr)(p:Nat)(w:(Int×Int)×Int×Int):Kr×An:=if w.2.2≠0 then(k,An.no w.2.2)else AD k p (e9 k.l w.2.1)
def mq(k:Kr)(p:Nat)(c:Cl):Kr×An:=AE k p (bv k p c.fd 512)
theorem pS{l:List fq}{o r:Int}(hl:l.length<=10):(fU l o r).1.length<=10:=by
 unfold fU Tb.gP;split
 .simp
 .split
  .simpa using hl
  .split
   .simp
   .rename_i h;simp only[KB,aaH,Wo,aaq]at h⊢;omega
theorem J7{k:Kr}(hk:dz k.l k.ops k.ps){p:Nat}(hp:p<k.ps.length){l:List fq}(hl:l.length<=10):dz k.l k.ops (eV k.ps p l):=by
 have e:eV k.ps p l=k.ps.set p {k.ps[p]with bd:=l}:=by rw[eV,sA hp]
 rw[e];refine⟨hk.sm,hk.ll,hk.lo,by simpa using hk.lp,fun x hx=>?_,fun h=>hk.ne (by simpa using h)⟩
 rcases aac hx with hx|rfl
 .exact hk.sl x hx
 .exact hl
theorem l39:bs Tryz.prog Tryz.f39=some c39.er:=by kernel_rfl
def WV:LC:=bH (bH (bH (bH (bH (bH (bH c39.code))))))
def WW:LC:=ov WV
theorem AF(k:Kr)(p:Nat)(hk:dz k.l k.ops k.ps)(c:Cl)(l:List Obj)(m:bo)(fd:Int):
  aw Tryz.prog 2 WW (QC c39.jW (wL k l m fd).1 p c (wL k l m fd).2)
   ⟨kR 82 [(0,.rv (.one (.ptr 0 0))),(1,.rv (.one (.ptr 1 0))),(4,.rv (.one (.ptr 2 0))),(8,cq l),(9,.rv (.one (.ptr 3 0))),(10,an .i64 fd)],[xB k p,cB c,bQ,.var (m.enc.map .aa)]⟩:=by
 refine lV k p hk l 0 0 rfl ?_;exact C3 (k:=cV k l 0) (a:=⟨0,m.data.length,fd,m.data⟩) (X:=[_,_])
theorem qG(k:Kr)(p:Nat)(hw:KW k p)(c:Cl):
  body Tryz.prog c39 [.rv (.one (.ptr 0 0)),.rv (.one (.ptr 1 0))] [xB k p,cB c] (TC (mq k p c).1 p c (mq k p c).2):=by
 refine je k p hw c.fd 512 0 rfl ?_;have hS:mq k p c=AE k p (bv k p c.fd 512):=rfl;rw[hS];clear hS;generalize bv k p c.fd 512=w;obtain⟨⟨o,r⟩,b,e⟩:=w;refine bt (fun he=>?_) (fun he=>?_)
 .have he:e≠0:=he;rw[AE,if_pos he];exact cM (X:=[_,_])
 have he:e=0:=he;subst he;rw[AE,if_neg aI];refine LH k.l hw.mz b ?_;generalize e9 k.l b=R;obtain⟨l,m,e⟩:=R;refine bt (fun he=>?_) (fun he=>?_)
 .have he:e≠0:=he;rw[AD,if_pos he];exact cM (X:=[_,_,_])
 have he:e=0:=he;subst he;have hR:AD k p (l,m,0)=if m.has=true then
   (if(fU (aW k.ps p) m.eE m.cn).2.2≠0 then(k,An.no (fU (aW k.ps p) m.eE m.cn).2.2)
    else wL (iL k p (fU (aW k.ps p) m.eE m.cn).1 0) l m (fU (aW k.ps p) m.eE m.cn).2.1)
  else wL k l m (-1):=by rw[AD,if_neg aI]
 rw[hR];clear hR;obtain⟨data,has,eE,cn⟩:=m;cases has with
 |false=>
  rw[if_neg aI];refine⟨_,View.o1 5 [0,1,2,4] [] ?_,AF k p hw.kr c l ⟨data,false,eE,cn⟩ (-1)⟩
  .exact .pt rfl rfl (.eq rfl (bx _ _)) (.pt rfl rfl (.eq rfl (ct _)) (.pt rfl rfl (.eq rfl (by simp[bQ])) (.pm rfl rfl rfl)))
 |true=>
  rw[if_pos rfl];have hg:=dM hw.hp;rw[<-io hw.hp]at hg;have hl:(aW k.ps p).length<=10:=by rw[io hw.hp];exact hw.kr.sl _ (Wl hw.hp)
  refine ag hg ?_;have ix:= @pS (aW k.ps p) eE cn hl;refine xW (aW k.ps p) om eE cn ?_;have hkr:= @J7 k hw.kr p hw.hp;generalize fU (aW k.ps p) eE cn=T at ix⊢;obtain⟨t,fd,e⟩:=T;refine⟨trivial,?_⟩;refine bt (fun he=>?_) (fun he=>?_)
  .have he:e≠0:=he;rw[if_pos he];exact cM (X:=[_,_,_])
  have he:e=0:=he;subst he;rw[if_neg aI];refine Au k p hw.kr hw.hp t 0 0 rfl ?_;refine⟨_,View.o1 5 [0,1,2,4] [] ?_,AF (iL k p t 0) p (hkr ix) c l ⟨data,true,eE,cn⟩ fd⟩
  .exact .pt rfl rfl (.eq rfl (bx _ _)) (.pt rfl rfl (.eq rfl (ct _)) (.pt rfl rfl (.eq rfl (by simp[bQ])) (.pm rfl rfl rfl)))
theorem GN(k:Kr)(p:Nat)(hw:KW k p)(c:Cl):aq Tryz.prog 39 [.rv (.one (.ptr 0 0)),.rv (.one (.ptr 1 0))] [xB k p,cB c] (TC (mq k p c).1 p c (mq k p c).2):=
 ce Tryz.func39 l39 (qG k p hw c)
end Kn
def c37:LF:= ⟨69,[.cell true 4 2],(.seq (.ai [qu 2 (.alloc [(qd 0),(qd 0),(qd 0),.aB])]) (.seq (.ai [qm 10 0,qu 11 (.aT 10),qf 12 0 11,qf 13 0 12,ql 14 13,qu 15 (qc 71 [14]),qm 9 15,qu 16 (.ext 9 0),qu 17 (.ext 9 1),qu 18 (.ext 9 2),qu 4 (.alloc [(qd 0),(qd 0)]),qm 3 16,qw (.store 2 4 17),qm 5 18]) (.seq (.seq (.ai [qm 19 5,qu 20 (.aH .neq 19 (qi 0))]) (.cond 20 (.seq (.ai [qm 21 5,qu 22 (.build [(qd 0),(qd 0),(qd 0),.aB] [(0,1,21)]),qw (.store 4 2 22)]) .ret) .skip)) (.seq (.ai [qm 23 0,qu 24 (.aT 23),qf 25 0 24,qL 26 3 25,qu 27 (qc 59 [26]),qu 6 (.alloc [.aB,.aB,.aB]),qw (.store 3 6 27)]) (.seq (.ai [qm 28 3,qf 29 0 6,qw (.store 1 29 28)]) (.cI (.seq (.bU [qL 31 3 6,qm 32 0,qu 33 (.aT 32),qf 34 3 33,ql 35 34,qu 36 (.yS 2 1 4 (qi 0)),ql 37 36,qu 38 (qc 72 [31,35,37,(qi 896)]),qm 30 38,qu 39 (.ext 30 0),qu 40 (.ext 30 1),qu 41 (.ext 30 2),qw (.store 3 6 39),qm 7 40,qm 5 41] [(.cons 0 none (.cons 1 none (.cons 2 none (.cons 3 none (.cons 4 none (.cons 5 none (.cons 6 none (.cons 7 (some []) (.cons 8 none (.cons 9 none (.cons 10 none (.cons 11 none (.cons 12 (some []) (.cons 13 none (.cons 14 none .nil)))))))))))))))]) (.seq (.seq (.ai [qm 42 5,qu 43 (.aH .neq 42 (qi 0))]) (.cond 43 (.seq (.ai [qm 44 5,qu 45 (.build [(qd 0),(qd 0),(qd 0),.aB] [(0,1,44)]),qw (.store 4 2 45)]) .ret) .skip)) (.seq (.bU [qL 47 3 6,qm 48 0,qu 49 (.aT 48),qf 50 3 49,ql 51 50,qu 52 (.yS 2 1 4 (qi 1)),ql 53 52,qu 54 (qc 72 [47,51,53,(qi 896)]),qm 46 54,qu 55 (.ext 46 0),qu 56 (.ext 46 1),qu 57 (.ext 46 2),qw (.store 3 6 55),qm 8 56,qm 5 57] [(.cons 0 none (.cons 1 none (.cons 2 none (.cons 3 none (.cons 4 none (.cons 5 none (.cons 6 none (.cons 7 (some []) (.cons 8 none (.cons 9 none (.cons 10 none (.cons 11 none (.cons 12 (some []) (.cons 13 none (.cons 14 none .nil)))))))))))))))]) (.seq (.seq (.ai [qm 58 5,qu 59 (.aH .neq 58 (qi 0))]) (.cond 59 (.seq (.ai [qm 60 5,qu 61 (.build [(qd 0),(qd 0),(qd 0),.aB] [(0,1,60)]),qw (.store 4 2 61)]) .ret) .skip)) (.seq (.ai [qm 62 0,qL 63 3 6,qu 64 (.aT 62),qf 65 0 64,qw (.store 3 65 63)]) (.seq (.ai [qm 66 7,qm 67 8,qu 68 (.build [(qd 0),(qd 0),(qd 0),.aB] [(1,1,66),(2,1,67)]),qw (.store 4 2 68)]) .ret))))))))))))⟩
namespace Kn
def uJ(p:Nat)(a:Kr×Int×Int)(e1:Int)(k:Kr):Kr×An:=
 if a.2.2≠0 then(k,An.no a.2.2)
 else if(aK a.1 p e1 896).2.2≠0 then(k,An.no (aK a.1 p e1 896).2.2)
 else((aK a.1 p e1 896).1,⟨0,a.2.1,(aK a.1 p e1 896).2.1,[]⟩)
def AG(k:Kr)(p:Nat)(P:List Obj×(Int×Int)×Int):Kr×An:=
 if P.2.2≠0 then(k,An.no P.2.2)else uJ p (aK ⟨P.1,k.ops,k.ps⟩ p P.2.1.1 896) P.2.1.2 k
def mr(k:Kr)(p:Nat):Kr×An:=AG k p (e8 k.l)
structure PE(k:Kr)(p:Nat)(P:List Obj×(Int×Int)×Int):Prop where
 a:P.2.2=0->dz P.1 k.ops k.ps
 b:P.2.2=0->(aK ⟨P.1,k.ops,k.ps⟩ p P.2.1.1 896).2.2=0->dz (aK ⟨P.1,k.ops,k.ps⟩ p P.2.1.1 896).1.l (aK ⟨P.1,k.ops,k.ps⟩ p P.2.1.1 896).1.ops (aK ⟨P.1,k.ops,k.ps⟩ p P.2.1.1 896).1.ps/\p<(aK ⟨P.1,k.ops,k.ps⟩ p P.2.1.1 896).1.ps.length
theorem l37:bs Tryz.prog Tryz.f37=some c37.er:=by kernel_rfl
def WX:LC:=bH (bH (bH (bH (bH c37.code))))
def WY:LC:=ov WX
def kB(k:Kr):Bk:= .var ((kC k.l k.ops k.ps).map .aa)
theorem eX(k:Kr):kB k≠.aO:=by intro h;cases h
def TP(k:Kr)(p:Nat)(a:An)(r:CV)(m:Mem):Prop:=∃r' m',View 1 ⟨[r],m⟩ ⟨[r'],m'⟩/\r'=a.cv/\m'=[xB k p]
theorem ET{k:Kr}{p:Nat}{X:Mem}{e n x:Int}:TP k p ⟨e,n,x,[]⟩ (.rv (.agg [.aa (.val (.int .i64 e)),.aa (.val (.int .i64 n)),.aa (.val (.int .i64 x)),.aB])) (xB k p::X):=
 ⟨_,_,View.of (X.length+1) [0] [] rfl rfl rfl rfl rfl (by simp[eR,Nat.blt]) (.put JY .nil) (.pt rfl rfl (.eq rfl (bx _ _)) (.nil _)),rfl,rfl⟩
theorem J8(k:Kr)(p:Nat)(k1:Kr)(hp:p<k1.ps.length)(hk:dz k1.l k1.ops k1.ps)(e0 e1:Int)(hb:(aK k1 p e0 896).2.2=0->dz (aK k1 p e0 896).1.l (aK k1 p e0 896).1.ops (aK k1 p e0 896).1.ps/\p<(aK k1 p e0 896).1.ps.length):
  aw Tryz.prog 1 WY (mJ Tryz.prog c37.jW (TP (uJ p (aK k1 p e0 896) e1 k).1 p (uJ p (aK k1 p e0 896) e1 k).2))
   ⟨kR 69 [(0,.rv (.one (.ptr 0 0))),(2,.rv (.one (.ptr 1 0))),(4,.rv (.one (.ptr 2 0))),(6,.rv (.one (.ptr 3 0)))],[xB k p,bQ,.var [.aa (.val (.int .i64 e0)),.aa (.val (.int .i64 e1))],kB k1]⟩:=by
 refine qW k1 hk p hp e0 896 ?_;generalize aK k1 p e0 896=A at hb⊢;obtain⟨k2,fd,e⟩:=A;refine⟨trivial,trivial,?_⟩;refine bt (fun he=>?_) (fun he=>?_)
 .have he:e≠0:=he;rw[uJ,if_pos he];exact ET (X:=[_,_,_])
 have he:e=0:=he;subst he;obtain⟨oh,J9⟩:=hb rfl;have e2:uJ p (k2,fd,0) e1 k=if(aK k2 p e1 896).2.2≠0 then(k,An.no (aK k2 p e1 896).2.2)else((aK k2 p e1 896).1,⟨0,fd,(aK k2 p e1 896).2.1,[]⟩):=by rw[uJ,if_neg aI]
 rw[e2];refine qW k2 oh p J9 e1 896 ?_;generalize aK k2 p e1 896=B;obtain⟨k3,fM,e⟩:=B;refine⟨trivial,trivial,?_⟩;refine bt (fun he=>?_) (fun he=>?_)
 .have he:e≠0:=he;rw[if_pos he];exact ET (X:=[_,_,_])
 have he:¬e≠0:=fun h=>h he
 rw[if_neg he];exact ET (k:=k3) (X:=[_,_,_])
theorem De(k:Kr)(p:Nat)(hw:KW k p)(hi:PE k p (e8 k.l)):
  body Tryz.prog c37 [.rv (.one (.ptr 0 0))] [xB k p] (TP (mr k p).1 p (mr k p).2):=by
 refine LD k.l hw.mz ?_;have hS:mr k p=AG k p (e8 k.l):=rfl;rw[hS];clear hS;generalize e8 k.l=P at hi⊢;obtain⟨l,⟨e0,e1⟩,e⟩:=P;refine bt (fun he=>?_) (fun he=>?_)
 .have he:e≠0:=he;rw[AG,if_pos he];exact ET (X:=[_,_])
 have he:e=0:=he;subst he;rw[AG,if_neg aI];refine gD k.l k.ops k.ps hw.mz hw.kr.lo hw.kr.lp hw.kr.sl hw.kr.ne ?_;refine⟨_,View.o1 7 [0,1,2,6] [3,4,5] ?_,J8 k p ⟨l,k.ops,k.ps⟩ hw.hp (hi.a rfl) e0 e1 (hi.b rfl)⟩
 .exact .pt rfl rfl (.eq rfl (bx _ _)) (.pt rfl rfl (.eq rfl (by simp[bQ])) (.pe rfl rfl rfl (.pt rfl rfl (eC.var (.cons (.aQ (.aa _)) (.cons (.eZ (gq rfl rfl)) (.cons (.eZ (gq rfl rfl)) .nil)))) (.nil _))))
theorem Ka(k:Kr)(p:Nat)(hw:KW k p)(hi:PE k p (e8 k.l)){m:Mem}(id:Nat)(hb:cR m id=some (xB k p)){K:CV->Mem->Prop}(hK:K (mr k p).2.cv (aZ m id (xB (mr k p).1 p))):
  aq Tryz.prog 37 [.rv (.one (.ptr id 0))] m K:=
 EP (args:=[]) (fun _=>rfl) (fun _=>rfl)
  (bK (ce Tryz.func37 l37 (De k p hw hi)) fun r m1⟨r',m',hv,hq⟩=>⟨r',m',hv,hq⟩) id hb hK
end Kn
end Go.Proofs.YtodckkkbiidffaaGreatDoor
