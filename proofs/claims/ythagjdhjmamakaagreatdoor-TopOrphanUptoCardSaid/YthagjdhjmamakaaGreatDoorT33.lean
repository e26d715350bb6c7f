/- Part 33 of 41: what the law stands on. -/
import Derived.Test.YthagjdhjmamakaaGreatDoorT16
import Derived.Test.YthagjdhjmamakaaGreatDoorT32
set_option linter.unusedVariables false
set_option linter.unusedSimpArgs false
set_option linter.unnecessarySimpa false
set_option maxRecDepth 100000
set_option maxHeartbeats 64000000
namespace Go.Proofs.YthagjdhjmamakaaGreatDoor
open Go.AM Go.ChangeShapes Go.WideShapes Go.ChangeAt Go.RowKit
def c30:LF:= ⟨66,[.cell true 4 4],(.seq (.ai [qu 4 (.alloc [(qd 0),(qd 0),(qd 0),.aB])]) (.seq (.bT [qm 8 0,qu 9 (.aR 8),qf 10 0 9,qf 11 2 10,ql 12 11,qm 13 0,qu 14 (.aR 13),qf 15 3 14,ql 16 15,qu 17 (.b7 4 12 16),qf 18 3 17,ql 19 18,qm 5 19] [(.cons 0 none (.cons 1 none (.cons 2 none (.cons 3 none (.cons 4 none (.cons 5 none (.cons 6 none (.cons 7 none (.cons 8 none (.cons 9 none (.cons 10 none (.cons 11 none (.cons 12 none .nil)))))))))))))]) (.seq (.ai [qu 6 (.aD (qi 0))]) (.seq (.ai [qu 7 (.aD (qi 0))]) (.seq (.seq (.ai [qm 20 1,qu 21 (.aR 20),qf 22 1 21,ql 23 22]) (.block 0 (.seq (.ai [qu 38 (.aE .eql 23 (qi 7)),qm 37 38]) (.cond 37 (.ai [qm 40 5,qm 41 1,qu 42 (.aR 41),qf 43 2 42,ql 44 43,qu 45 (qc 53 [40,44]),qm 39 45,qu 46 (.ext 39 0),qu 47 (.ext 39 1),qm 5 46,qm 7 47]) (.seq (.ai [qu 49 (.aE .eql 23 (qi 8)),qm 48 49]) (.cond 48 (.ai [qm 51 5,qm 52 1,qu 53 (.aR 52),qf 54 2 53,ql 55 54,qu 56 (qc 54 [51,55]),qm 50 56,qu 57 (.ext 50 0),qu 58 (.ext 50 1),qu 59 (.ext 50 2),qm 5 57,qm 6 58,qm 7 59]) (.bT [qm 25 5,qm 26 1,qu 27 (.aR 26),qf 28 2 27,ql 29 28,qm 30 1,qu 31 (.aR 30),qf 32 6 31,ql 33 32,qu 34 (qc 55 [25,29,33]),qm 24 34,qu 35 (.ext 24 0),qu 36 (.ext 24 1),qm 5 35,qm 7 36] [(.cons 0 none (.cons 1 none (.cons 2 none (.cons 3 none (.cons 4 none (.cons 5 none (.cons 6 none (.cons 7 none (.cons 8 none (.cons 9 (some []) (.cons 10 none (.cons 11 none (.cons 12 none (.cons 13 none (.cons 14 none .nil)))))))))))))))]))))))) (.cL (.seq (.ai [qm 60 0,qm 61 5,qm 62 7,qu 63 (qc 56 [60,61,62]),qm 64 6,qu 65 (.build [(qd 0),(qd 0),(qd 0),.aB] [(0,1,63),(1,1,64)]),qw (.store 4 4 65)]) .ret)))))))⟩
namespace Kn
def Bv(k:Kr)(p:Nat)(x:List fq×Int×Int):Kr×An:=(iz k p x.1 x.2.2,⟨x.2.2,x.2.1,0,[]⟩)
def mL(l:List fq)(c:Cl):List fq×Int×Int:=
 if c.ah=7 then((vl l c.fd).1,0,(vl l c.fd).2)else if c.ah=8 then Lc l c.fd else((y5 l c.fd c.aQ).1,0,(y5 l c.fd c.aQ).2)
def nI(k:Kr)(p:Nat)(c:Cl):Kr×An:=Bv k p (mL (aV k.ps p) c)
theorem l30:bq Tryz.prog Tryz.f30=some c30.er:=by kernel_rfl
def Yc:LC:=bI (bI (bI (bI (bI c30.code))))
def Yd:LC:=oV Yc
theorem Ll(k:Kr)(p:Nat)(hw:KW k p)(c:Cl)(x:List fq×Int×Int):
  aw Tryz.prog 2 Yd (QC c30.ki (Bv k p x).1 p c (Bv k p x).2)
   ⟨lB 66 [(0,.rv (.one (.ptr 0 0))),(1,.rv (.one (.ptr 1 0))),(4,.rv (.one (.ptr 2 0))),(5,ma x.1),(6,an .i64 x.2.1),(7,an .i64 x.2.2)],[xB k p,cB c,bS]⟩:=by
 refine Br k p hw.kr hw.hp x.1 x.2.2 0 rfl ?_;exact cO (X:=[_])
theorem H2(k:Kr)(p:Nat)(hw:KW k p)(c:Cl):
  body Tryz.prog c30 [.rv (.one (.ptr 0 0)),.rv (.one (.ptr 1 0))] [xB k p,cB c] (TC (nI k p c).1 p c (nI k p c).2):=by
 have hs:=Ll k p hw c (mL (aV k.ps p) c);have hg:=dQ hw.hp;rw[<-iA hw.hp]at hg;have hl:(aV k.ps p).length<=2097152:=by rw[iA hw.hp];have:=hw.kr.sl _ (XP hw.hp);omega
 have hS:nI k p c=Bv k p (mL (aV k.ps p) c):=rfl;rw[hS];clear hS;refine ag hg ?_;generalize aV k.ps p=S at hl hs⊢;refine bz (fun h7=>?_) (fun h7=>?_)
 .have h7:c.ah=7:=h7;rw[mL,if_pos h7]at hs⊢;refine HT S hl c.fd ?_;refine⟨_,View.o1 3 [0,1,2] [] ?_,hs⟩
  .exact .pt rfl rfl (.eq rfl (bx _ _)) (.pt rfl rfl (.eq rfl (cr _)) (.pt rfl rfl (.eq rfl (by simp[bS])) (.nil _)))
 have h7:¬c.ah=7:=h7;rw[mL,if_neg h7]at hs⊢;refine bz (fun h8=>?_) (fun h8=>?_)
 .have h8:c.ah=8:=h8;rw[if_pos h8]at hs⊢;refine NB S hl c.fd ?_;refine⟨_,View.o1 3 [0,1,2] [] ?_,hs⟩
  .exact .pt rfl rfl (.eq rfl (bx _ _)) (.pt rfl rfl (.eq rfl (cr _)) (.pt rfl rfl (.eq rfl (by simp[bS])) (.nil _)))
 have h8:¬c.ah=8:=h8;rw[if_neg h8]at hs⊢;refine HU S hl c.fd c.aQ ?_;refine⟨trivial,_,View.o1 3 [0,1,2] [] ?_,hs⟩
 .exact .pt rfl rfl (.eq rfl (bx _ _)) (.pt rfl rfl (.eq rfl (cr _)) (.pt rfl rfl (.eq rfl (by simp[bS])) (.nil _)))
theorem rN(k:Kr)(p:Nat)(hw:KW k p)(c:Cl):ar Tryz.prog 30 [.rv (.one (.ptr 0 0)),.rv (.one (.ptr 1 0))] [xB k p,cB c] (TC (nI k p c).1 p c (nI k p c).2):=
 cf Tryz.func30 l30 (H2 k p hw c)
end Kn
def c31:LF:= ⟨85,[.cell true 4 4],(.seq (.ai [qu 4 (.alloc [(qd 0),(qd 0),(qd 0),.aB])]) (.seq (.ai [qu 5 (.aD (qi 128))]) (.seq (.seq (.ai [qm 12 1,qu 13 (.aR 12),qf 14 1 13,ql 15 14,qu 16 (.aE .eql 15 (qi 11))]) (.cond 16 (.ai [qu 5 (.aD (qi 64))]) .skip)) (.cL (.seq (.ai [qm 18 0,qm 19 1,qu 20 (.aR 19),qf 21 2 20,ql 22 21,qm 23 5,qu 24 (qc 49 [18,22,23]),qm 17 24,qu 25 (.ext 17 0),qu 26 (.ext 17 1),qu 27 (.ext 17 2),qu 6 (.alloc [(qd 0),(qd 0)]),qw (.store 2 6 25),qm 7 26,qm 8 27]) (.seq (.seq (.ai [qm 28 8,qu 29 (.aE .neq 28 (qi 0))]) (.cond 29 (.seq (.ai [qm 30 8,qu 31 (.build [(qd 0),(qd 0),(qd 0),.aB] [(0,1,30)]),qw (.store 4 4 31)]) .ret) .skip)) (.seq (.ai [qm 32 0,qu 33 (.aR 32),qf 34 0 33,qf 35 0 34,ql 36 35,qm 37 7,qu 38 (.b7 9 36 37),qL 39 9 38,qu 9 (.alloc [(qd 0),.aB,.aB,(.aa (.val (.string ⟨#[]⟩))),(qd 0),.aB,(qd 0),(qd 0),(qd 0)]),qw (.store 9 9 39)]) (.seq (.seq (.ai [qm 40 1,qu 41 (.aR 40),qf 42 1 41,ql 43 42,qu 44 (.aE .eql 43 (qi 11))]) (.cond 44 (.seq (.seq (.ai [qf 45 0 9,ql 46 45,qu 47 (.aE .neq 46 (qi 2))]) (.cond 47 (.seq (.ai [qu 48 (.build [(qd 0),(qd 0),(qd 0),.aB] [(0,1,(qi 11))]),qw (.store 4 4 48)]) .ret) .skip)) (.seq (.ai [qL 49 9 9,qu 50 (qc 58 [49]),qu 51 (qc 57 [50,(.c (.rv (.one (.aa (.val (.string ⟨#[10]⟩))))))]),qm 10 51]) (.seq (.ai [qf 52 2 9,ql 53 52,qu 54 (.len 1 53),qm 55 10,qu 56 (.Rw 55),qu 57 (.build [(qd 0),(qd 0),(qd 0),.aB] [(1,1,54),(3,1,56)]),qw (.store 4 4 57)]) .ret))) .skip)) (.seq (.ai [qf 58 1 9,ql 59 58,qu 60 (.len 1 59),qf 61 2 9,ql 62 61,qu 63 (.len 1 62),qu 64 (.aE .add 60 63),qf 65 5 9,ql 66 65,qu 67 (.len 1 66),qu 68 (.aE .add 64 67),qm 11 68]) (.seq (.seq (.bT [qf 69 0 9,ql 70 69,qu 71 (.aE .eql 70 (qi 5)),qm 72 71,qg 73 (.aD 0) 72 true,qg 74 (.aR 73) 72 true,qg 75 (.bQ 0 74) 72 true,qg 76 (.load true 3 75) 72 true,qg 77 (.bQ 6 9) 72 true,qg 78 (.load false 1 77) 72 true,qg 79 (qc 25 [76,78]) 72 true,qu 80 (.pick 72 79 (qb false))] [(.cons 0 none (.cons 1 none (.cons 2 none (.cons 3 none (.cons 4 none (.cons 5 none (.cons 6 none (.cons 7 none (.cons 8 none (.cons 9 none (.cons 10 (some []) (.cons 11 none .nil))))))))))))]) (.cond 80 (.ai [qu 11 (.aD (qi 1))]) .skip)) (.seq (.ai [qf 81 0 9,ql 82 81,qm 83 11,qu 84 (.build [(qd 0),(qd 0),(qd 0),.aB] [(1,1,82),(2,1,83)]),qw (.store 4 4 84)]) .ret)))))))))))⟩
namespace bD
def jV(sep:di)(l:List di):di:=Lib.join l sep
theorem Bw(l:List di):(l.map cu).map (·.data.toList)=l:=by rw[aaN];exact List.map_id'' (fun _=>rfl) l
theorem NH(l:List di)(sep:di)(hN:l.length<=4194304)(hlen:(jV sep l).length<=140737488355328){m:Mem}{K:CV->Mem->Prop}(h:K (vT (jV sep l)) m):ar Tryz.prog 57 [txV l,vT sep] m K:=by
 refine⟨⟨Tryz.f57,Tryz.func57,rfl,by decide⟩,fun ρ w vs hM hl hd=>?_⟩
 obtain⟨v0,h0,d0⟩:=hd 0 _ rfl;obtain⟨v1,h1,d1⟩:=hd 1 _ rfl;have CQ:v1= .string (cu sep):=(bJ d1).1;have Ce:vs=[v0,v1]:=by
  match vs,hl with
  | [a,b],_=>simp at h0 h1;rw[h0,h1]
 have hU:∀(W':World)(v:Value),v= .string (cu (jV sep l))->Below w.heap.size w W'->∃Td r m' ρ',Ending.returned v= .returned Td/\K r m'/\aC ρ' m' W'/\bW ρ' W' r Td/\Ext ρ m w ρ' m' W':=by
  rintro W' v rfl hb;refine⟨_,_,m,ρ,rfl,h,hM.tm ⟨hb.size,fun b hS=>hb.block b (hM.S b hS),fun k hk=>hb.block _ (hM.a8 k hk).1⟩,cZ.val _ rfl,?_⟩
  exact⟨QN _,fun _ _=>rfl,fun _ h=>h,fun _ h=>.inl h,fun k h=>.inr ⟨k,h,rfl⟩,fun b qY _=>hb.block b qY,hb.size,hb.os,hb.tape,hb.output⟩
 have hD:cZ ρ.S w (.sl 1 (l.map tD)) v0:=d0;rw[Ce,CQ];generalize JE:l.map tD=elems at hD;cases hD with
 |nil _ a cap hc=>
  have:l=[]:=by simpa using JE
  subst this;refine(Hx a cap (cu sep) w).mono fun e W'⟨he,hw⟩=>?_
  subst he;exact hU W' _ rfl (hw▸Below.refl _ _)
 |sl _ _ b off cap u hS qI bl dj hc bY=>
  have Ye:elems.length=(l.map cu).length:=by rw[<-JE];simp
  rw[Ye]at qI⊢;refine(Nl b off cap (l.map cu) (cu sep) w (fun j x hj=>?_) (hM.S b hS) (by rw[LW];omega) qI (by rw[Bw];exact hlen)).mono fun e W'⟨he,hw⟩=>?_
  .rw[O6]at hj;cases Yf:l[j]? with
   |none=>rw[Yf]at hj;cases hj
   |some t=>
    rw[Yf]at hj;simp only[XS,XQ]at hj;subst hj;have e1:elems[j]? =some [.val (.string (cu t))]:=by rw[<-JE,O6,Yf];rfl
    have e2:=hc j _ 0 _ e1 rfl;have e3:=bY j _ 0 _ e1 rfl;have e4:u j 0= .string (cu t):=by
     generalize u j 0=x at e3;cases e3 with
     |val _ _=>rfl
    rw[e4]at e2;simpa using e2
  .subst he;refine hU W' _ ?_ hw;rw[Bw];rfl
end bD
namespace Kn
def qz(e:NE):bD.di:=e.1.data.toList
def tB(t:bD.di):List (List Dt):=dh (t.map fun b=>((b.toNat:Nat):Int))
def Ef(o:Obj):bD.di:=bD.jV [10] ((o.aj.map mH).map qz)
def Gc(k:Kr)(o:Obj):Int:=if o.ah=5/\eZ k.ps o.aM=true then 1 else qy (qy o.data.length o.aj.length) o.ak.length
def zd(k:Kr)(c:Cl)(o:Obj):An:=
 if c.ah=11 then(if o.ah≠2 then An.no 11 else⟨0,o.aj.length,0,tB (Ef o)⟩)else⟨0,o.ah,Gc k o,[]⟩
def mt(k:Kr)(c:Cl)(w:(Int×Int)×Int×Int):An:=if w.2.2≠0 then An.no w.2.2 else zd k c (mq k.l w.2.1)
def Lm(c:Cl):Int:=if c.ah=11 then 64 else 128
def jW(k:Kr)(p:Nat)(c:Cl):Kr×An:=(k,mt k c (bn k p c.fd (Lm c)))
theorem Un(es:List NE):es.map VL=(es.map qz).map bD.tD:=by
 rw[aaN];refine abd fun e _=>?_
 obtain⟨t,ht⟩:=bD.F0 e.1;show [Dt.val (.string e.1)]=[Dt.val (.string (bD.cu e.1.data.toList))];rw[ht];rfl
theorem Bx:∀(l:List bD.di)(n:Nat),(∀t,t∈l->t.length<=n)->(bD.jV [10] l).length<=l.length*(n+1)
 | [],_,_=>by simp[bD.jV,Lib.join]
 | [t],n,h=>by have:=h t aK;simp[bD.jV,Lib.join];omega
 |t::u::r,n,h=>by
  have h1:=h t aK;have h2:=Bx (u::r) n fun x hx=>h x (by simp[hx])
  have e:(bD.jV [10] (t::u::r)).length=t.length+1+(bD.jV [10] (u::r)).length:=by simp[bD.jV,Lib.join];omega
  rw[e];simp only[XR]at h2⊢;have e2:(r.length+1+1)*(n+1)=(r.length+1)*(n+1)+(n+1):=by rw[aaz (r.length+1) 1 (n+1),aaU]
  rw[e2];omega
theorem H3(t:bD.di):lX (bD.cu t)=af (tB t):=by show t.map _=_;rw[af,tB,dh,aaN,aaN];rfl
theorem l31:bq Tryz.prog Tryz.f31=some c31.er:=by kernel_rfl
def C18:LC:=bI (bI (bI c31.code))
def G18:LC:=oV C18
theorem Yg{m:Mem}{e n x:Int}{id:Nat}{d:List (List Dt)}{Z:Nat->Prop}{σ:Nat->Nat}(hz:Z id)(hm:m[id]? =some (.row 1 (af d))):
  pS σ m Z (.rv (.agg [.aa (.val (.int .i64 e)),.aa (.val (.int .i64 n)),.aa (.val (.int .i64 x)),.row id 1 0 none])) (An.cv ⟨e,n,x,d⟩):=
 .rv (.agg rfl fun i c c' h1 h2=>by
  match i,h1,h2 with
  |0,h1,h2=>cases h1;cases h2;exact .aP (.aa _)
  |1,h1,h2=>cases h1;cases h2;exact .aP (.aa _)
  |2,h1,h2=>cases h1;cases h2;exact .aP (.aa _)
  |3,h1,h2=>cases h1;cases h2;exact .eu (gA hz hm)
  |n+4,h1,h2=>simp at h1)
theorem H4(k:Kr)(p:Nat)(hw:KW k p)(c:Cl)(need:Int):
  aw Tryz.prog 2 G18 (QC c31.ki k p c (mt k c (bn k p c.fd need)))
   ⟨lB 85 [(0,.rv (.one (.ptr 0 0))),(1,.rv (.one (.ptr 1 0))),(4,.rv (.one (.ptr 2 0))),(5,an .i64 need)],[xB k p,cB c,bS]⟩:=by
 refine jp k p hw c.fd need 0 rfl ?_;have hh:= @KW.held k p hw c.fd need;generalize bn k p c.fd need=w at hh⊢;obtain⟨⟨o,r⟩,b,e⟩:=w;refine bu (fun he=>?_) (fun he=>?_)
 .have he:e≠0:=he;have e1:mt k c ((o,r),b,e)=An.no e:=by rw[mt,if_pos he]
  rw[e1];exact cO (X:=[_,_])
 have he:e=0:=he;subst he;obtain⟨n,j,h1,h2,h3,h4,h5⟩:=hh rfl;have h3:b=j:=h3;subst h3;have CM:=hw.kr.sm _ (XP h4);have Oz:=hw.nm _ (XP h4);have e1:mt k c ((o,r),((j:Nat):Int),0)=zd k c k.l[j]:=by rw[mt,if_neg aK,rM h4]
 rw[e1];refine ag (gU h4) ?_;generalize k.l[j]=ob at CM Oz⊢;refine bz (fun IQ=>?_) (fun IQ=>?_)
 .have IQ:c.ah=11:=IQ;rw[zd,if_pos IQ];refine bu (fun Ff=>?_) (fun Ff=>?_)
  .have Ff:ob.ah≠2:=Ff;rw[if_pos Ff];exact cO (X:=[_,_,_])
  have Ff:¬ob.ah≠2:=fun h=>h Ff
  rw[if_neg Ff];obtain⟨es,pg⟩:=CM.t.2.1;have JE:es.length<=8:=by have:=CM.e;rw[pg]at this;simpa using this
  have Pd:ob.aj.map mH=es:=by rw[pg,me]
  rw[Pd]at Oz;have hN:Ef ob=bD.jV [10] (es.map qz):=by rw[Ef,Pd]
  rw[hN];have hJ:(bD.jV [10] (es.map qz)).length<=200:=by
   have:=Bx (es.map qz) 12 fun t ht=>by obtain⟨e,he,rfl⟩:=aae.1 ht;have:=Oz e he;show e.1.data.toList.length<=12;rwa [aaW]
   rw[LW]at this;omega
  refine KU ob es pg om ?_;rw[Un];refine bD.NH (es.map qz) [10] (by rw[LW];omega) om ?_
  have dj:(bD.cu (bD.jV [10] (es.map qz))).size<=140737488355328:=by rw[bD.lP];omega
  have hR:=H3 (bD.jV [10] (es.map qz));generalize bD.jV [10] (es.map qz)=T at dj hR;refine⟨dj,?_⟩;refine⟨_,_,View.o 6 [0,1] [5] (.put (Yg rfl (congrArg (fun x=>some (Bk.row 1 x)) hR)) .nil) (.pt rfl rfl (.eq rfl (bx _ _)) (.pt rfl rfl (.eq rfl (cr _)) (.nil _))),rfl,rfl⟩
 have IQ:¬c.ah=11:=IQ;rw[zd,if_neg IQ];have hq:(ob.ak.length:Int)=((ob.ak.map bp.enc).length:Int):=by rw[LW]
 refine bz (fun h5=>?_) (fun h5=>?_)
 .have h5:ob.ah=5:=h5;refine nw k.l k.ops k.ps ob.aM ?_;refine⟨trivial,?_⟩;cases hl:eZ k.ps ob.aM with
  |true=>
   rw[Gc,if_pos ⟨h5,hl⟩];exact cO (X:=[_,_,_])
  |false=>
   rw[Gc,if_neg (by simp[hl]),hq]
   exact cO (X:=[_,_,_])
 .have h5:¬ob.ah=5:=h5;rw[Gc,if_neg (fun h=>h5 h.1),hq]
  refine⟨trivial,?_⟩;exact cO (X:=[_,_,_])
theorem Eg(k:Kr)(p:Nat)(hw:KW k p)(c:Cl):
  body Tryz.prog c31 [.rv (.one (.ptr 0 0)),.rv (.one (.ptr 1 0))] [xB k p,cB c] (TC (jW k p c).1 p c (jW k p c).2):=by
 have hs:=fun need=>H4 k p hw c need
 refine bz (fun h=>?_) (fun h=>?_)
 .have h:c.ah=11:=h;have e:jW k p c=(k,mt k c (bn k p c.fd 64)):=by rw[jW,Lm,if_pos h]
  rw[e];refine⟨_,View.o1 3 [0,1,2] [] ?_,hs 64⟩
  .exact .pt rfl rfl (.eq rfl (bx _ _)) (.pt rfl rfl (.eq rfl (cr _)) (.pt rfl rfl (.eq rfl (by simp[bS])) (.nil _)))
 .have h:¬c.ah=11:=h;have e:jW k p c=(k,mt k c (bn k p c.fd 128)):=by rw[jW,Lm,if_neg h]
  rw[e];refine⟨_,View.o1 3 [0,1,2] [] ?_,hs 128⟩
  .exact .pt rfl rfl (.eq rfl (bx _ _)) (.pt rfl rfl (.eq rfl (cr _)) (.pt rfl rfl (.eq rfl (by simp[bS])) (.nil _)))
theorem vu(k:Kr)(p:Nat)(hw:KW k p)(c:Cl):ar Tryz.prog 31 [.rv (.one (.ptr 0 0)),.rv (.one (.ptr 1 0))] [xB k p,cB c] (TC (jW k p c).1 p c (jW k p c).2):=
 cf Tryz.func31 l31 (Eg k p hw c)
end Kn
def c32:LF:= ⟨142,[.cell true 4 4],(.seq (.ai [qu 4 (.alloc [(qd 0),(qd 0),(qd 0),.aB])]) (.seq (.ai [qu 5 (.aD (qi 24))]) (.seq (.seq (.ai [qm 16 1,qu 17 (.aR 16),qf 18 1 17,ql 19 18,qu 20 (.aE .eql 19 (qi 14))]) (.cond 20 (.ai [qu 5 (.aD (qi 40))]) .skip)) (.cL (.seq (.ai [qm 22 0,qm 23 1,qu 24 (.aR 23),qf 25 2 24,ql 26 25,qm 27 5,qu 28 (qc 49 [22,26,27]),qm 21 28,qu 29 (.ext 21 0),qu 30 (.ext 21 1),qu 31 (.ext 21 2),qu 6 (.alloc [(qd 0),(qd 0)]),qw (.store 2 6 29),qm 7 30,qm 8 31]) (.seq (.seq (.ai [qm 32 8,qu 33 (.aE .neq 32 (qi 0))]) (.cond 33 (.seq (.ai [qm 34 8,qu 35 (.build [(qd 0),(qd 0),(qd 0),.aB] [(0,1,34)]),qw (.store 4 4 35)]) .ret) .skip)) (.seq (.seq (.ai [qm 36 1,qu 37 (.aR 36),qf 38 1 37,ql 39 38,qu 40 (.aE .eql 39 (qi 13))]) (.cond 40 (.seq (.ai [qm 42 1,qu 43 (.aR 42),qf 44 8 43,ql 45 44,qu 46 (.Mf 45),qu 47 (qc 59 [46]),qm 41 47,qu 48 (.ext 41 0),qu 49 (.ext 41 1),qu 50 (.ext 41 2),qm 9 48,qm 10 49,qm 11 50]) (.seq (.ai [qm 51 11,qu 52 (.aE .neq 51 (qi 0))]) (.cond 52 (.seq (.ai [qm 53 11,qu 54 (.build [(qd 0),(qd 0),(qd 0),.aB] [(0,1,53)]),qw (.store 4 4 54)]) .ret) .skip))) .skip)) (.cL (.seq (.bT [qm 56 0,qu 57 (.aR 56),qf 58 0 57,qf 59 0 58,ql 60 59,qm 61 7,qm 62 1,qu 63 (.aR 62),qf 64 7 63,ql 65 64,qu 66 (qc 60 [60,61,65,(qb true),(qb false)]),qm 55 66,qu 67 (.ext 55 0),qu 68 (.ext 55 1),qu 12 (.alloc [(qd 0),(qd 0),(.aa (.val (.string ⟨#[]⟩)))]),qw (.store 3 12 67),qm 8 68] [(.cons 0 none (.cons 1 none (.cons 2 none (.cons 3 none (.cons 4 none (.cons 5 none (.cons 6 none (.cons 7 none (.cons 8 none (.cons 9 none (.zS (.cons 10 (some []) (.cons 11 none (.cons 12 none (.cons 13 none (.cons 14 (some [9,4]) (.cons 15 (some []) (.cons 16 none .nil))))))) (.cons 14 (some [9,4]) (.cons 10 (some []) (.cons 11 none (.cons 12 none (.cons 13 none (.cons 15 (some []) (.cons 16 none .nil))))))))))))))))))]) (.cL (.seq (.block 0 (.seq (.ai [qm 77 8,qu 78 (.aE .neq 77 (qi 0)),qm 76 78]) (.cond 76 .skip (.seq (.ai [qf 80 2 12,ql 81 80,qu 82 (.aE .eql 81 (.c (.rv (.one (.aa (.val (.string ⟨#[]⟩))))))),qm 79 82]) (.cond 79 (.ai [qu 8 (.aD (qi 8))]) (.seq (.ai [qm 84 1,qu 85 (.aR 84),qf 86 1 85,ql 87 86,qu 88 (.aE .eql 87 (qi 14)),qm 89 88,qg 90 (.bQ 0 12) 89 true,qg 91 (.load false 1 90) 89 true,qg 92 (.aE .lss 91 (qi 0)) 89 true,qu 93 (.pick 89 92 (qb false)),qm 83 93]) (.cond 83 (.ai [qu 8 (.aD (qi 6))]) (.seq (.ai [qm 95 1,qu 96 (.aR 95),qf 97 1 96,ql 98 97,qu 99 (.aE .eql 98 (qi 14)),qm 94 99]) (.cond 94 (.seq (.bT [qm 101 0,qu 102 (.aR 101),qf 103 0 102,qf 104 0 103,ql 105 104,qf 106 1 12,ql 107 106,qf 108 2 12,ql 109 108,qu 110 (qc 61 [105,107,109]),qm 100 110,qu 111 (.ext 100 0),qu 112 (.ext 100 1),qu 113 (.ext 100 2),qm 13 111,qm 14 112,qm 15 113] [(.cons 0 none (.cons 1 none (.cons 2 none (.cons 3 none (.cons 4 none (.cons 5 none (.cons 6 none (.cons 7 none (.cons 8 none (.cons 9 (some []) (.cons 10 none (.cons 11 none (.cons 12 none (.cons 13 none (.cons 14 none (.cons 15 none (.cons 16 none .nil)))))))))))))))))]) (.ai [qm 114 0,qm 115 13,qm 116 15,qu 117 (qc 62 [114,115,116]),qm 8 117])) (.seq (.ai [qf 119 0 12,ql 120 119,qu 121 (.aE .geq 120 (qi 0)),qm 118 121]) (.cond 118 (.ai [qu 8 (.aD (qi 7))]) (.seq (.ai [qm 123 1,qu 124 (.aR 123),qf 125 1 124,ql 126 125,qu 127 (.aE .eql 126 (qi 13)),qm 122 127]) (.cond 122 (.bT [qm 129 0,qL 130 3 12,qm 131 1,qu 132 (.aR 131),qf 133 8 132,ql 134 133,qu 135 (.Mf 134),qu 136 (.build [(qd 0),.aB,.aB,(.aa (.val (.string ⟨#[]⟩))),(qd 0),.aB,(qd 0),(qd 0),(qd 0)] [(0,1,(qi 3)),(3,1,135)]),qu 137 (qc 63 [129,130,136]),qm 128 137,qu 138 (.ext 128 0),qu 139 (.ext 128 1),qm 8 139] [(.cons 0 none (.cons 1 none (.cons 2 none (.cons 3 none (.cons 4 none (.cons 5 none (.cons 6 (some [1]) (.cons 7 none (.cons 8 (some []) (.cons 9 none (.cons 10 none (.cons 11 none (.cons 12 none .nil)))))))))))))]) (.ai [qm 70 0,qL 71 3 12,qu 72 (.build [(qd 0),.aB,.aB,(.aa (.val (.string ⟨#[]⟩))),(qd 0),.aB,(qd 0),(qd 0),(qd 0)] [(0,1,(qi 2))]),qu 73 (qc 63 [70,71,72]),qm 69 73,qu 74 (.ext 69 0),qu 75 (.ext 69 1),qm 8 75])))))))))))))) (.cL (.seq (.ai [qm 140 8,qu 141 (.build [(qd 0),(qd 0),(qd 0),.aB] [(0,1,140)]),qw (.store 4 4 141)]) .ret)))))))))))))⟩
namespace Kn
def vy(d:List Int):bD.di:=d.map fun n=>UInt8.ofNat n.toNat
def vz(d:List Int):Obj:=⟨3,[],[],bD.cu (vy d),0,[],0,0,0⟩
def Eh:Obj:=⟨2,[],[],⟨#[]⟩,0,[],0,0,0⟩
theorem ze(k:Int)(t:ByteArray):ND ⟨k,[],[],t,0,[],0,0,0⟩:=⟨⟨⟨⟨[],rfl⟩,⟨[],rfl⟩,aK⟩,aK,aK,aK,aK⟩,rfl⟩
def Ei(k:Kr)(f:R4):List Obj×Int×Int:=cN k.l f.cE (bD.cu f.name)
def nJ(k:Kr)(c:Cl)(f:R4):Kr×Int:=
 if f.ix≠0 then(k,f.ix)
 else if f.name=[]then(k,8)
 else if c.ah=14 then(if f.bt<0 then(k,6)else(cW k (Ei k f).1 (Ei k f).2.2,(Ei k f).2.2))
 else if f.bt>=0 then(k,7)
 else if c.ah=13 then((cK k f (vz c.data)).1,(cK k f (vz c.data)).2.2)
 else((cK k f Eh).1,(cK k f Eh).2.2)
def xK(c:Cl):Int:=if c.ah=14 then 40 else 24
def i9(k:Kr)(c:Cl)(w:(Int×Int)×Int×Int):Kr×Int:=
 if w.2.2≠0 then(k,w.2.2)
 else if c.ah=13/\(bD.cA (vy c.data)).2.2≠0 then(k,(bD.cA (vy c.data)).2.2)
 else nJ k c (iQ k w.2.1 c.bZ true false)
def NI(x:Kr×Int):Kr×An:=(x.1,An.no x.2)
def kP(k:Kr)(p:Nat)(c:Cl):Kr×An:=NI (i9 k c (bn k p c.fd (xK c)))
theorem l32:bq Tryz.prog Tryz.f32=some c32.er:=by kernel_rfl
def Yh:LC:=bI (bI (bI c32.code))
def Uo:LC:=oV Yh
def Yi:LC:=bI (bI (bI Uo))
def Up:LC:=oV Yi
def Yj:LC:=bI Up
def Uq:LC:=oV Yj
def Ur:LC:=bI Uq
def Us:LC:=oV Ur
theorem H5(k:Kr)(p:Nat)(c:Cl)(e:Int):
  aw Tryz.prog 2 Us (QC c32.ki k p c (An.no e)) ⟨lB 142 [(0,.rv (.one (.ptr 0 0))),(1,.rv (.one (.ptr 1 0))),(4,.rv (.one (.ptr 2 0))),(8,an .i64 e)],[xB k p,cB c,bS]⟩:=cO (X:=[_])
theorem Yk(t:bD.di){A B:Prop}(ha:t=[]->A)(hb:t≠[]->B): @Bool.rec (fun _=>Prop) B A ((bD.cu t).toList==(⟨#[]⟩:ByteArray).toList):=bD.jQ (b:=[]) ha hb
theorem m3{σ:Nat->Nat}(hσ:σ 0=0/\σ 1=1/\σ 2=2){Z:Nat->Prop}(hZ:¬Z 0/\¬Z 1/\¬Z 2){k:Kr}{p:Nat}{c:Cl}{X:Mem}:eN σ (xB k p::cB c::bS::X) Z 0 [xB k p,cB c,bS]:=by
 obtain⟨h0,h1,h2⟩:=hσ;obtain⟨z0,z1,z2⟩:=hZ;exact .put (by rw[h0];exact z0) (by rw[h0];rfl) (.eq rfl (bx _ _)) (.put (by rw[h1];exact z1) (by rw[h1];rfl) (.eq rfl (cr _)) (.put (by rw[h2];exact z2) (by rw[h2];rfl) (.eq rfl (by simp[bS])) (.nil _)))
theorem Ln(k:Kr)(p:Nat)(hw:KW k p)(c:Cl)(f:R4):
  aw Tryz.prog 2 Uq (QC c32.ki (NI (nJ k c f)).1 p c (NI (nJ k c f)).2)
   ⟨lB 142 [(0,.rv (.one (.ptr 0 0))),(1,.rv (.one (.ptr 1 0))),(4,.rv (.one (.ptr 2 0))),(8,an .i64 f.ix),(12,.rv (.one (.ptr 3 0)))],[xB k p,cB c,bS,.var ((RQ f).map .aa)]⟩:=by
 have Ej:=fun k e=>H5 k p c e
 obtain⟨bt,cE,name,ix⟩:=f;refine bu (fun he=>?_) (fun he=>?_)
 .have he:ix≠0:=he;have e1:nJ k c ⟨bt,cE,name,ix⟩=(k,ix):=by rw[nJ,if_pos he]
  rw[e1];refine⟨_,View.o 4 [0,1,2] [] ?_ (m3 ⟨rfl,rfl,rfl⟩ ⟨eD rfl,eD rfl,eD rfl⟩),Ej k ix⟩;repeat(first|exact .nil|refine .aq ?_|refine .eq rfl ?_)
 have he:ix=0:=he;subst he;refine Yk name (fun h1=>?_) (fun h1=>?_)
 .have e1:nJ k c ⟨bt,cE,name,0⟩=(k,8):=by rw[nJ,if_neg aK,if_pos h1]
  rw[e1];refine⟨_,View.o 4 [0,1,2] [] ?_ (m3 ⟨rfl,rfl,rfl⟩ ⟨eD rfl,eD rfl,eD rfl⟩),Ej k 8⟩;repeat(first|exact .nil|refine .aq ?_|refine .eq rfl ?_)
 have e0:nJ k c ⟨bt,cE,name,0⟩=if c.ah=14 then(if bt<0 then(k,6)else(cW k (Ei k ⟨bt,cE,name,0⟩).1 (Ei k ⟨bt,cE,name,0⟩).2.2,(Ei k ⟨bt,cE,name,0⟩).2.2))
   else if bt>=0 then(k,7)
   else if c.ah=13 then((cK k ⟨bt,cE,name,0⟩ (vz c.data)).1,(cK k ⟨bt,cE,name,0⟩ (vz c.data)).2.2)
   else((cK k ⟨bt,cE,name,0⟩ Eh).1,(cK k ⟨bt,cE,name,0⟩ Eh).2.2):=by rw[nJ,if_neg aK,if_neg h1]
 rw[e0];refine bz (fun Lo=>?_) (fun Lo=>?_)
 .have Lo:c.ah=14:=Lo;rw[if_pos Lo];refine aJ (fun ho=>?_) (fun ho=>?_)
  .have ho:bt<0:=ho;rw[if_pos ho];refine⟨_,View.o 4 [0,1,2] [] ?_ (m3 ⟨rfl,rfl,rfl⟩ ⟨eD rfl,eD rfl,eD rfl⟩),Ej k 6⟩;repeat(first|exact .nil|refine .aq ?_|refine .eq rfl ?_)
  have ho:¬bt<0:=ho;rw[if_neg ho];refine b8 (beq_iff_eq.2 Lo) ?_;refine D2 k.l hw.Cm cE (bD.cu name) ?_;refine⟨trivial,?_⟩;refine ml k p hw.kr _ _ 0 rfl ?_;refine⟨_,View.o 4 [0,1,2] [] ?_ (m3 ⟨rfl,rfl,rfl⟩ ⟨eD rfl,eD rfl,eD rfl⟩),Ej _ _⟩;repeat(first|exact .nil|refine .aq ?_|refine .eq rfl ?_)
 have Lo:¬c.ah=14:=Lo;rw[if_neg Lo];refine sM (beq_eq_false_iff_ne.2 Lo) ?_;refine aJ (fun ho=>?_) (fun ho=>?_)
 .have ho:bt>=0:=ho;rw[if_pos ho];refine⟨_,View.o 4 [0,1,2] [] ?_ (m3 ⟨rfl,rfl,rfl⟩ ⟨eD rfl,eD rfl,eD rfl⟩),Ej k 7⟩;repeat(first|exact .nil|refine .aq ?_|refine .eq rfl ?_)
 have ho:¬bt>=0:=ho;rw[if_neg ho];refine bz (fun Cn=>?_) (fun Cn=>?_)
 .have Cn:c.ah=13:=Cn;rw[if_pos Cn];refine ag (gw c.data) ?_;refine⟨⟨rfl,trivial⟩,?_⟩;refine lI (y9 _ _ _ _) (rK k p hw ⟨bt,cE,name,0⟩ (vz c.data) (ze _ _) 0 rfl ?_);refine⟨trivial,?_⟩;refine⟨_,View.o 4 [0,1,2] [] ?_ (m3 ⟨rfl,rfl,rfl⟩ ⟨eD rfl,eD rfl,eD rfl⟩),Ej _ _⟩;repeat(first|exact .nil|refine .aq ?_|refine .eq rfl ?_)
 have Cn:¬c.ah=13:=Cn;rw[if_neg Cn];refine lI (y9 _ _ _ _) (rK k p hw ⟨bt,cE,name,0⟩ Eh (ze _ _) 0 rfl ?_);refine⟨_,View.o 4 [0,1,2] [] ?_ (m3 ⟨rfl,rfl,rfl⟩ ⟨eD rfl,eD rfl,eD rfl⟩),Ej _ _⟩;repeat(first|exact .nil|refine .aq ?_|refine .eq rfl ?_)
theorem By(k:Kr)(p:Nat)(hw:KW k p)(c:Cl)(au:Int)(R:Kr×Int)(hR:R=nJ k c (iQ k au c.bZ true false)):
  aw Tryz.prog 2 Up (QC c32.ki (NI R).1 p c (NI R).2)
   ⟨lB 142 [(0,.rv (.one (.ptr 0 0))),(1,.rv (.one (.ptr 1 0))),(4,.rv (.one (.ptr 2 0))),(7,an .i64 au)],[xB k p,cB c,bS]⟩:=by
 have hs:=Ln k p hw c (iQ k au c.bZ true false);rw[<-hR]at hs;refine⟨?_,?_⟩
 .refine qx k p hw au c.bZ true false ?_;refine⟨trivial,⟨rfl,rfl,trivial⟩,trivial,_,View.o1 4 [0,1,2,3] [] ?_,hs⟩
  .exact .pt rfl rfl (.eq rfl (bx _ _)) (.pt rfl rfl (.eq rfl (cr _)) (.pt rfl rfl (.eq rfl (by simp[bS])) (.pm rfl rfl rfl)))
 .refine⟨⟨rfl,rfl,trivial⟩,?_⟩;refine qx k p hw au c.bZ true false ?_;refine⟨trivial,trivial,_,View.o1 4 [0,1,2,3] [] ?_,hs⟩
  .exact .pt rfl rfl (.eq rfl (bx _ _)) (.pt rfl rfl (.eq rfl (cr _)) (.pt rfl rfl (.eq rfl (by simp[bS])) (.pm rfl rfl rfl)))
theorem Lp(k:Kr)(p:Nat)(hw:KW k p)(c:Cl)(need:Int):
  aw Tryz.prog 2 Uo (QC c32.ki (NI (i9 k c (bn k p c.fd need))).1 p c (NI (i9 k c (bn k p c.fd need))).2)
   ⟨lB 142 [(0,.rv (.one (.ptr 0 0))),(1,.rv (.one (.ptr 1 0))),(4,.rv (.one (.ptr 2 0))),(5,an .i64 need)],[xB k p,cB c,bS]⟩:=by
 refine jp k p hw c.fd need 0 rfl ?_;generalize bn k p c.fd need=w;obtain⟨⟨o,r⟩,b,e⟩:=w;refine bu (fun he=>?_) (fun he=>?_)
 .have he:e≠0:=he;have e1:i9 k c ((o,r),b,e)=(k,e):=by rw[i9,if_pos he]
  rw[e1];exact cO (X:=[_,_])
 have he:e=0:=he;subst he;refine bz (fun Cn=>?_) (fun Cn=>?_)
 .have Cn:c.ah=13:=Cn;refine ag (gw c.data) ?_;refine bD.uZ (vy c.data) ?_;refine bu (fun hs=>?_) (fun hs=>?_)
  .have hs:(bD.cA (vy c.data)).2.2≠0:=hs;have e1:i9 k c ((o,r),b,0)=(k,(bD.cA (vy c.data)).2.2):=by rw[i9,if_neg aK,if_pos ⟨Cn,hs⟩]
   rw[e1];exact cO (X:=[_,_])
  .have hs:¬(bD.cA (vy c.data)).2.2≠0:=fun h=>h hs
   refine⟨_,View.o 4 [0,1,2] [] ?_ (m3 ⟨rfl,rfl,rfl⟩ ⟨eD rfl,eD rfl,eD rfl⟩),By k p hw c b (i9 k c ((o,r),b,0)) (by rw[i9,if_neg aK,if_neg (fun h=>hs h.2)])⟩
   repeat(first|exact .nil|refine .aq ?_|refine .eq rfl ?_)
 .have Cn:¬c.ah=13:=Cn;refine⟨_,View.o 4 [0,1,2] [] ?_ (m3 ⟨rfl,rfl,rfl⟩ ⟨eD rfl,eD rfl,eD rfl⟩),By k p hw c b (i9 k c ((o,r),b,0)) (by rw[i9,if_neg aK,if_neg (fun h=>Cn h.1)])⟩
  repeat(first|exact .nil|refine .aq ?_|refine .eq rfl ?_)
theorem rH(k:Kr)(p:Nat)(hw:KW k p)(c:Cl):
  body Tryz.prog c32 [.rv (.one (.ptr 0 0)),.rv (.one (.ptr 1 0))] [xB k p,cB c] (TC (kP k p c).1 p c (kP k p c).2):=by
 have hs:=fun need=>Lp k p hw c need
 refine bz (fun h=>?_) (fun h=>?_)
 .have h:c.ah=14:=h;have e:kP k p c=NI (i9 k c (bn k p c.fd 40)):=by rw[kP,xK,if_pos h]
  rw[e];refine⟨_,View.o 3 [0,1,2] [] ?_ (m3 ⟨rfl,rfl,rfl⟩ ⟨eD rfl,eD rfl,eD rfl⟩),hs 40⟩;repeat(first|exact .nil|refine .aq ?_|refine .eq rfl ?_)
 .have h:¬c.ah=14:=h;have e:kP k p c=NI (i9 k c (bn k p c.fd 24)):=by rw[kP,xK,if_neg h]
  rw[e];refine⟨_,View.o 3 [0,1,2] [] ?_ (m3 ⟨rfl,rfl,rfl⟩ ⟨eD rfl,eD rfl,eD rfl⟩),hs 24⟩;repeat(first|exact .nil|refine .aq ?_|refine .eq rfl ?_)
theorem rO(k:Kr)(p:Nat)(hw:KW k p)(c:Cl):ar Tryz.prog 32 [.rv (.one (.ptr 0 0)),.rv (.one (.ptr 1 0))] [xB k p,cB c] (TC (kP k p c).1 p c (kP k p c).2):=
 cf Tryz.func32 l32 (rH k p hw c)
end Kn
def c34:LF:= ⟨85,[.cell true 4 4],(.seq (.ai [qu 4 (.alloc [(qd 0),(qd 0),(qd 0),.aB])]) (.seq (.ai [qm 11 0,qm 12 1,qu 13 (.aR 12),qf 14 2 13,ql 15 14,qu 16 (qc 49 [11,15,(qi 256)]),qm 10 16,qu 17 (.ext 10 0),qu 18 (.ext 10 1),qu 19 (.ext 10 2),qu 5 (.alloc [(qd 0),(qd 0)]),qw (.store 2 5 17),qm 6 18,qm 7 19]) (.seq (.seq (.ai [qm 20 7,qu 21 (.aE .neq 20 (qi 0))]) (.cond 21 (.seq (.ai [qm 22 7,qu 23 (.build [(qd 0),(qd 0),(qd 0),.aB] [(0,1,22)]),qw (.store 4 4 23)]) .ret) .skip)) (.seq (.ai [qm 24 1,qu 25 (.aR 24),qf 26 8 25,ql 27 26,qu 28 (.build [.aB,(.aa (.val (.bool false))),(qd 0),(qd 0)] [(0,1,27)]),qu 8 (.alloc [.aB,(.aa (.val (.bool false))),(qd 0),(qd 0)]),qw (.store 4 8 28)]) (.seq (.seq (.ai [qm 29 1,qu 30 (.aR 29),qf 31 3 30,ql 32 31,qu 33 (.aE .geq 32 (qi 0))]) (.cond 33 (.seq (.seq (.bT [qm 35 0,qu 36 (.aR 35),qf 37 0 36,qf 38 2 37,ql 39 38,qm 40 0,qu 41 (.aR 40),qf 42 3 41,ql 43 42,qu 44 (.b7 4 39 43),qf 45 3 44,ql 46 45,qm 47 1,qu 48 (.aR 47),qf 49 3 48,ql 50 49,qu 51 (qc 66 [46,50]),qm 34 51,qu 52 (.ext 34 0),qu 53 (.ext 34 1),qf 54 2 8,qw (.store 2 54 52),qm 7 53] [(.cons 0 none (.cons 1 none (.cons 2 none (.cons 3 none (.cons 4 none (.cons 5 none (.cons 6 none (.cons 7 none (.cons 8 none (.cons 9 none (.cons 10 none (.cons 11 none (.cons 12 none (.cons 13 none (.cons 14 none (.cons 15 none (.cons 16 (some []) (.cons 17 none (.cons 18 none (.cons 19 none (.cons 20 none (.cons 21 (some []) (.cons 22 none .nil)))))))))))))))))))))))]) (.seq (.ai [qm 55 7,qu 56 (.aE .neq 55 (qi 0))]) (.cond 56 (.seq (.ai [qm 57 7,qu 58 (.build [(qd 0),(qd 0),(qd 0),.aB] [(0,1,57)]),qw (.store 4 4 58)]) .ret) .skip))) (.ai [qf 59 1 8,qw (.store 1 59 (qb true))])) .skip)) (.cL (.seq (.bT [qm 61 0,qu 62 (.aR 61),qf 63 0 62,qf 64 0 63,ql 65 64,qm 66 6,qL 67 4 8,qu 68 (qc 67 [65,66,67]),qm 60 68,qu 69 (.ext 60 0),qu 70 (.ext 60 1),qm 9 69,qm 7 70] [(.cons 0 none (.cons 1 none (.cons 2 none (.cons 3 none (.cons 4 none (.cons 5 none (.cons 6 none (.cons 7 (some []) (.cons 8 none (.cons 9 none (.cons 10 none (.cons 11 none (.cons 12 none .nil)))))))))))))]) (.seq (.seq (.ai [qm 71 0,qm 72 9,qm 73 7,qu 74 (qc 62 [71,72,73]),qm 7 74]) (.seq (.ai [qm 75 7,qu 76 (.aE .neq 75 (qi 0))]) (.cond 76 (.seq (.ai [qm 77 7,qu 78 (.build [(qd 0),(qd 0),(qd 0),.aB] [(0,1,77)]),qw (.store 4 4 78)]) .ret) .skip))) (.seq (.ai [qm 79 1,qu 80 (.aR 79),qf 81 8 80,ql 82 81,qu 83 (.len 1 82),qu 84 (.build [(qd 0),(qd 0),(qd 0),.aB] [(1,1,83)]),qw (.store 4 4 84)]) .ret)))))))))⟩
def c35:LF:= ⟨82,[.cell true 4 4],(.seq (.ai [qu 4 (.alloc [(qd 0),(qd 0),(qd 0),.aB])]) (.seq (.ai [qm 15 0,qm 16 1,qu 17 (.aR 16),qf 18 2 17,ql 19 18,qu 20 (qc 49 [15,19,(qi 512)]),qm 14 20,qu 21 (.ext 14 0),qu 22 (.ext 14 1),qu 23 (.ext 14 2),qu 5 (.alloc [(qd 0),(qd 0)]),qw (.store 2 5 21),qm 6 22,qm 7 23]) (.seq (.seq (.ai [qm 24 7,qu 25 (.aE .neq 24 (qi 0))]) (.cond 25 (.seq (.ai [qm 26 7,qu 27 (.build [(qd 0),(qd 0),(qd 0),.aB] [(0,1,26)]),qw (.store 4 4 27)]) .ret) .skip)) (.seq (.ai [qm 29 0,qu 30 (.aR 29),qf 31 0 30,qf 32 0 31,ql 33 32,qm 34 6,qu 35 (qc 68 [33,34]),qm 28 35,qu 36 (.ext 28 0),qu 37 (.ext 28 1),qu 38 (.ext 28 2),qu 9 (.alloc [.aB,(.aa (.val (.bool false))),(qd 0),(qd 0)]),qm 8 36,qw (.store 4 9 37),qm 7 38]) (.seq (.seq (.ai [qm 39 7,qu 40 (.aE .neq 39 (qi 0))]) (.cond 40 (.seq (.ai [qm 41 7,qu 42 (.build [(qd 0),(qd 0),(qd 0),.aB] [(0,1,41)]),qw (.store 4 4 42)]) .ret) .skip)) (.seq (.ai [qu 10 (.aD (qi (-1)))]) (.seq (.seq (.ai [qf 43 1 9,ql 44 43]) (.cond 44 (.seq (.bT [qm 46 0,qu 47 (.aR 46),qf 48 0 47,qf 49 2 48,ql 50 49,qm 51 0,qu 52 (.aR 51),qf 53 3 52,ql 54 53,qu 55 (.b7 4 50 54),qf 56 3 55,ql 57 56,qf 58 2 9,qL 59 2 58,qu 60 (qc 69 [57,59]),qm 45 60,qu 61 (.ext 45 0),qu 62 (.ext 45 1),qu 63 (.ext 45 2),qm 11 61,qm 12 62,qm 13 63] [(.cons 0 none (.cons 1 none (.cons 2 none (.cons 3 none (.cons 4 none (.cons 5 none (.cons 6 none (.cons 7 none (.cons 8 none (.cons 9 none (.cons 10 none (.cons 11 none (.cons 12 none (.cons 13 none (.cons 14 (some []) (.cons 15 none (.cons 16 none (.cons 17 none (.cons 18 none (.cons 19 none (.cons 20 none (.cons 21 none .nil))))))))))))))))))))))]) (.seq (.seq (.ai [qm 64 13,qu 65 (.aE .neq 64 (qi 0))]) (.cond 65 (.seq (.ai [qm 66 13,qu 67 (.build [(qd 0),(qd 0),(qd 0),.aB] [(0,1,66)]),qw (.store 4 4 67)]) .ret) .skip)) (.seq (.ai [qm 68 0,qm 69 11,qu 70 (qc 56 [68,69,(qi 0)])]) (.ai [qm 71 12,qm 10 71])))) .skip)) (.cL (.seq (.ai [qm 72 0,qm 73 8,qu 74 (qc 62 [72,73,(qi 0)])]) (.seq (.ai [qf 75 0 9,ql 76 75,qu 77 (.len 1 76),qm 78 10,qf 79 0 9,ql 80 79,qu 81 (.build [(qd 0),(qd 0),(qd 0),.aB] [(1,1,77),(2,1,78),(3,1,80)]),qw (.store 4 4 81)]) .ret))))))))))⟩
namespace Kn
def xL(d:List Int)(g:(Int×Int)×Bool):bp:=⟨dh d,g.2,g.1.1,g.1.2⟩
def mM(k:Kr)(c:Cl)(r:List Obj×Int):Kr×An:=(cW k r.1 r.2,if r.2≠0 then An.no r.2 else⟨0,c.data.length,0,[]⟩)
def xM(k:Kr)(p:Nat)(c:Cl)(bt:Int):Kr×An:=
 if c.fT>=0 then
  (if(qv (aV k.ps p) c.fT).2≠0 then(k,An.no (qv (aV k.ps p) c.fT).2)else mM k c (eP k.l bt (xL c.data ((qv (aV k.ps p) c.fT).1,true))))
 else mM k c (eP k.l bt (xL c.data ((0,0),false)))
def Bz(k:Kr)(p:Nat)(c:Cl)(w:(Int×Int)×Int×Int):Kr×An:=if w.2.2≠0 then(k,An.no w.2.2)else xM k p c w.2.1
def mN(k:Kr)(p:Nat)(c:Cl):Kr×An:=Bz k p c (bn k p c.fd 256)
theorem l34:bq Tryz.prog Tryz.f34=some c34.er:=by kernel_rfl
def Yl:LC:=bI (bI (bI (bI (bI c34.code))))
def Ym:LC:=oV Yl
theorem Lq(k:Kr)(p:Nat)(hw:KW k p)(c:Cl)(bt:Int)(m:bp)(hm:m.data.length<=4194304):
  aw Tryz.prog 2 Ym (QC c34.ki (mM k c (eP k.l bt m)).1 p c (mM k c (eP k.l bt m)).2)
   ⟨lB 85 [(0,.rv (.one (.ptr 0 0))),(1,.rv (.one (.ptr 1 0))),(4,.rv (.one (.ptr 2 0))),(6,an .i64 bt),(8,.rv (.one (.ptr 3 0)))],[xB k p,cB c,bS,.var (m.enc.map .aa)]⟩:=by
 refine MZ k.l hw.mU bt m hm ?_;generalize eP k.l bt m=r;obtain⟨l,e⟩:=r;refine⟨trivial,?_⟩;refine ml k p hw.kr l e 0 rfl ?_;refine bu (fun he=>?_) (fun he=>?_)
 .have he:e≠0:=he;rw[mM,if_pos he];exact cO (X:=[_,_])
 .have he:¬e≠0:=fun h=>h he
  have hq:(c.data.length:Int)=((dh c.data).length:Int):=by simp[dh]
  rw[mM,if_neg he,hq];exact cO (X:=[_,_])
theorem rl(k:Kr)(p:Nat)(hw:KW k p)(c:Cl)(hd:c.data.length<=4194304):
  body Tryz.prog c34 [.rv (.one (.ptr 0 0)),.rv (.one (.ptr 1 0))] [xB k p,cB c] (TC (mN k p c).1 p c (mN k p c).2):=by
 have hs:=fun bt m hm=>Lq k p hw c bt m hm
 have kI:(dh c.data).length<=4194304:=by simpa[dh]using hd
 refine jp k p hw c.fd 256 0 rfl ?_;have hS:mN k p c=Bz k p c (bn k p c.fd 256):=rfl;rw[hS];clear hS;generalize bn k p c.fd 256=w;obtain⟨⟨o,r⟩,b,e⟩:=w;refine bu (fun he=>?_) (fun he=>?_)
 .have he:e≠0:=he;rw[Bz,if_pos he];exact cO (X:=[_,_])
 have he:e=0:=he;subst he;rw[Bz,if_neg aK];refine aJ (fun h2=>?_) (fun h2=>?_)
 .have h2:c.fT>=0:=h2;have hg:=dQ hw.hp;rw[<-iA hw.hp]at hg;refine ag hg ?_;have e1:xM k p c b=if(qv (aV k.ps p) c.fT).2≠0 then(k,An.no (qv (aV k.ps p) c.fT).2)else mM k c (eP k.l b (xL c.data ((qv (aV k.ps p) c.fT).1,true))):=by rw[xM,if_pos h2]
  rw[e1];refine NA (aV k.ps p) c.fT ?_;generalize qv (aV k.ps p) c.fT=g;obtain⟨⟨go,gr⟩,e⟩:=g;refine⟨trivial,trivial,?_⟩;refine bu (fun he=>?_) (fun he=>?_)
  .have he:e≠0:=he;rw[if_pos he];exact cO (X:=[_,_,_])
  have he:¬e≠0:=fun h=>h he
  rw[if_neg he];refine⟨_,View.o1 5 [0,1,2,4] [] ?_,hs b (xL c.data ((go,gr),true)) kI⟩
  .exact .pt rfl rfl (.eq rfl (bx _ _)) (.pt rfl rfl (.eq rfl (cr _)) (.pt rfl rfl (.eq rfl (by simp[bS])) (.pm rfl rfl rfl)))
 .have h2:¬c.fT>=0:=h2;have e1:xM k p c b=mM k c (eP k.l b (xL c.data ((0,0),false))):=by rw[xM,if_neg h2]
  rw[e1];refine⟨_,View.o1 5 [0,1,2,4] [] ?_,hs b (xL c.data ((0,0),false)) kI⟩
  .exact .pt rfl rfl (.eq rfl (bx _ _)) (.pt rfl rfl (.eq rfl (cr _)) (.pt rfl rfl (.eq rfl (by simp[bS])) (.pm rfl rfl rfl)))
theorem H6(k:Kr)(p:Nat)(hw:KW k p)(c:Cl)(hd:c.data.length<=4194304):ar Tryz.prog 34 [.rv (.one (.ptr 0 0)),.rv (.one (.ptr 1 0))] [xB k p,cB c] (TC (mN k p c).1 p c (mN k p c).2):=
 cf Tryz.func34 l34 (rl k p hw c hd)
def vA(k:Kr)(l:List Obj)(m:bp)(fd:Int):Kr×An:=(cW k l 0,⟨0,m.data.length,fd,m.data⟩)
def vB(k:Kr)(p:Nat)(r:List Obj×bp×Int):Kr×An:=
 if r.2.2≠0 then(k,An.no r.2.2)
 else if r.2.1.has=true then
  (if(eI (aV k.ps p) r.2.1.eJ r.2.1.cn).2.2≠0 then(k,An.no (eI (aV k.ps p) r.2.1.eJ r.2.1.cn).2.2)
   else vA (iz k p (eI (aV k.ps p) r.2.1.eJ r.2.1.cn).1 0) r.1 r.2.1 (eI (aV k.ps p) r.2.1.eJ r.2.1.cn).2.1)
 else vA k r.1 r.2.1 (-1)
def BA(k:Kr)(p:Nat)(w:(Int×Int)×Int×Int):Kr×An:=if w.2.2≠0 then(k,An.no w.2.2)else vB k p (ff k.l w.2.1)
def mO(k:Kr)(p:Nat)(c:Cl):Kr×An:=BA k p (bn k p c.fd 512)
theorem qA{l:List fq}{o r:Int}(hl:l.length<=10):(eI l o r).1.length<=10:=by
 unfold eI Tb.gE;split
 .simp
 .split
  .simpa using hl
  .split
   .simp
   .rename_i h;simp only[LW,aaw,XR,aat]at h⊢;omega
theorem Lr{k:Kr}(hk:dC k.l k.ops k.ps){p:Nat}(hp:p<k.ps.length){l:List fq}(hl:l.length<=10):dC k.l k.ops (eQ k.ps p l):=by
 have e:eQ k.ps p l=k.ps.set p {k.ps[p]with bd:=l}:=by rw[eQ,tq hp]
 rw[e];refine⟨hk.sm,hk.ll,hk.lo,by simpa using hk.lp,fun x hx=>?_,fun h=>hk.ne (by simpa using h)⟩
 rcases aag hx with hx|rfl
 .exact hk.sl x hx
 .exact hl
theorem l35:bq Tryz.prog Tryz.f35=some c35.er:=by kernel_rfl
def Yn:LC:=bI (bI (bI (bI (bI (bI (bI c35.code))))))
def Yo:LC:=oV Yn
theorem BB(k:Kr)(p:Nat)(hk:dC k.l k.ops k.ps)(c:Cl)(l:List Obj)(m:bp)(fd:Int):
  aw Tryz.prog 2 Yo (QC c35.ki (vA k l m fd).1 p c (vA k l m fd).2)
   ⟨lB 82 [(0,.rv (.one (.ptr 0 0))),(1,.rv (.one (.ptr 1 0))),(4,.rv (.one (.ptr 2 0))),(8,cq l),(9,.rv (.one (.ptr 3 0))),(10,an .i64 fd)],[xB k p,cB c,bS,.var (m.enc.map .aa)]⟩:=by
 refine ml k p hk l 0 0 rfl ?_;exact Eb (k:=cW k l 0) (a:=⟨0,m.data.length,fd,m.data⟩) (X:=[_,_])
theorem rn(k:Kr)(p:Nat)(hw:KW k p)(c:Cl):
  body Tryz.prog c35 [.rv (.one (.ptr 0 0)),.rv (.one (.ptr 1 0))] [xB k p,cB c] (TC (mO k p c).1 p c (mO k p c).2):=by
 refine jp k p hw c.fd 512 0 rfl ?_;have hS:mO k p c=BA k p (bn k p c.fd 512):=rfl;rw[hS];clear hS;generalize bn k p c.fd 512=w;obtain⟨⟨o,r⟩,b,e⟩:=w;refine bu (fun he=>?_) (fun he=>?_)
 .have he:e≠0:=he;rw[BA,if_pos he];exact cO (X:=[_,_])
 have he:e=0:=he;subst he;rw[BA,if_neg aK];refine M0 k.l hw.mU b ?_;generalize ff k.l b=R;obtain⟨l,m,e⟩:=R;refine bu (fun he=>?_) (fun he=>?_)
 .have he:e≠0:=he;rw[vB,if_pos he];exact cO (X:=[_,_,_])
 have he:e=0:=he;subst he;have hR:vB k p (l,m,0)=if m.has=true then
   (if(eI (aV k.ps p) m.eJ m.cn).2.2≠0 then(k,An.no (eI (aV k.ps p) m.eJ m.cn).2.2)
    else vA (iz k p (eI (aV k.ps p) m.eJ m.cn).1 0) l m (eI (aV k.ps p) m.eJ m.cn).2.1)
  else vA k l m (-1):=by rw[vB,if_neg aK]
 rw[hR];clear hR;obtain⟨data,has,eJ,cn⟩:=m;cases has with
 |false=>
  rw[if_neg aK];refine⟨_,View.o1 5 [0,1,2,4] [] ?_,BB k p hw.kr c l ⟨data,false,eJ,cn⟩ (-1)⟩
  .exact .pt rfl rfl (.eq rfl (bx _ _)) (.pt rfl rfl (.eq rfl (cr _)) (.pt rfl rfl (.eq rfl (by simp[bS])) (.pm rfl rfl rfl)))
 |true=>
  rw[if_pos rfl];have hg:=dQ hw.hp;rw[<-iA hw.hp]at hg;have hl:(aV k.ps p).length<=10:=by rw[iA hw.hp];exact hw.kr.sl _ (XP hw.hp)
  refine ag hg ?_;have iI:= @qA (aV k.ps p) eJ cn hl;refine yO (aV k.ps p) om eJ cn ?_;have hkr:= @Lr k hw.kr p hw.hp;generalize eI (aV k.ps p) eJ cn=T at iI⊢;obtain⟨t,fd,e⟩:=T;refine⟨trivial,?_⟩;refine bu (fun he=>?_) (fun he=>?_)
  .have he:e≠0:=he;rw[if_pos he];exact cO (X:=[_,_,_])
  have he:e=0:=he;subst he;rw[if_neg aK];refine Br k p hw.kr hw.hp t 0 0 rfl ?_;refine⟨_,View.o1 5 [0,1,2,4] [] ?_,BB (iz k p t 0) p (hkr iI) c l ⟨data,true,eJ,cn⟩ fd⟩
  .exact .pt rfl rfl (.eq rfl (bx _ _)) (.pt rfl rfl (.eq rfl (cr _)) (.pt rfl rfl (.eq rfl (by simp[bS])) (.pm rfl rfl rfl)))
theorem H7(k:Kr)(p:Nat)(hw:KW k p)(c:Cl):ar Tryz.prog 35 [.rv (.one (.ptr 0 0)),.rv (.one (.ptr 1 0))] [xB k p,cB c] (TC (mO k p c).1 p c (mO k p c).2):=
 cf Tryz.func35 l35 (rn k p hw c)
end Kn
def c33:LF:= ⟨69,[.cell true 4 2],(.seq (.ai [qu 2 (.alloc [(qd 0),(qd 0),(qd 0),.aB])]) (.seq (.ai [qm 10 0,qu 11 (.aR 10),qf 12 0 11,qf 13 0 12,ql 14 13,qu 15 (qc 64 [14]),qm 9 15,qu 16 (.ext 9 0),qu 17 (.ext 9 1),qu 18 (.ext 9 2),qu 4 (.alloc [(qd 0),(qd 0)]),qm 3 16,qw (.store 2 4 17),qm 5 18]) (.seq (.seq (.ai [qm 19 5,qu 20 (.aE .neq 19 (qi 0))]) (.cond 20 (.seq (.ai [qm 21 5,qu 22 (.build [(qd 0),(qd 0),(qd 0),.aB] [(0,1,21)]),qw (.store 4 2 22)]) .ret) .skip)) (.seq (.ai [qm 23 0,qu 24 (.aR 23),qf 25 0 24,qL 26 3 25,qu 27 (qc 52 [26]),qu 6 (.alloc [.aB,.aB,.aB]),qw (.store 3 6 27)]) (.seq (.ai [qm 28 3,qf 29 0 6,qw (.store 1 29 28)]) (.cL (.seq (.bT [qL 31 3 6,qm 32 0,qu 33 (.aR 32),qf 34 3 33,ql 35 34,qu 36 (.tP 2 1 4 (qi 0)),ql 37 36,qu 38 (qc 65 [31,35,37,(qi 896)]),qm 30 38,qu 39 (.ext 30 0),qu 40 (.ext 30 1),qu 41 (.ext 30 2),qw (.store 3 6 39),qm 7 40,qm 5 41] [(.cons 0 none (.cons 1 none (.cons 2 none (.cons 3 none (.cons 4 none (.cons 5 none (.cons 6 none (.cons 7 (some []) (.cons 8 none (.cons 9 none (.cons 10 none (.cons 11 none (.cons 12 (some []) (.cons 13 none (.cons 14 none .nil)))))))))))))))]) (.seq (.seq (.ai [qm 42 5,qu 43 (.aE .neq 42 (qi 0))]) (.cond 43 (.seq (.ai [qm 44 5,qu 45 (.build [(qd 0),(qd 0),(qd 0),.aB] [(0,1,44)]),qw (.store 4 2 45)]) .ret) .skip)) (.seq (.bT [qL 47 3 6,qm 48 0,qu 49 (.aR 48),qf 50 3 49,ql 51 50,qu 52 (.tP 2 1 4 (qi 1)),ql 53 52,qu 54 (qc 65 [47,51,53,(qi 896)]),qm 46 54,qu 55 (.ext 46 0),qu 56 (.ext 46 1),qu 57 (.ext 46 2),qw (.store 3 6 55),qm 8 56,qm 5 57] [(.cons 0 none (.cons 1 none (.cons 2 none (.cons 3 none (.cons 4 none (.cons 5 none (.cons 6 none (.cons 7 (some []) (.cons 8 none (.cons 9 none (.cons 10 none (.cons 11 none (.cons 12 (some []) (.cons 13 none (.cons 14 none .nil)))))))))))))))]) (.seq (.seq (.ai [qm 58 5,qu 59 (.aE .neq 58 (qi 0))]) (.cond 59 (.seq (.ai [qm 60 5,qu 61 (.build [(qd 0),(qd 0),(qd 0),.aB] [(0,1,60)]),qw (.store 4 2 61)]) .ret) .skip)) (.seq (.ai [qm 62 0,qL 63 3 6,qu 64 (.aR 62),qf 65 0 64,qw (.store 3 65 63)]) (.seq (.ai [qm 66 7,qm 67 8,qu 68 (.build [(qd 0),(qd 0),(qd 0),.aB] [(1,1,66),(2,1,67)]),qw (.store 4 2 68)]) .ret))))))))))))⟩
namespace Kn
def vC(p:Nat)(a:Kr×Int×Int)(e1:Int)(k:Kr):Kr×An:=
 if a.2.2≠0 then(k,An.no a.2.2)
 else if(aH a.1 p e1 896).2.2≠0 then(k,An.no (aH a.1 p e1 896).2.2)
 else((aH a.1 p e1 896).1,⟨0,a.2.1,(aH a.1 p e1 896).2.1,[]⟩)
def BC(k:Kr)(p:Nat)(P:List Obj×(Int×Int)×Int):Kr×An:=
 if P.2.2≠0 then(k,An.no P.2.2)else vC p (aH ⟨P.1,k.ops,k.ps⟩ p P.2.1.1 896) P.2.1.2 k
def mP(k:Kr)(p:Nat):Kr×An:=BC k p (fe k.l)
structure Q1(k:Kr)(p:Nat)(P:List Obj×(Int×Int)×Int):Prop where
 a:P.2.2=0->dC P.1 k.ops k.ps
 b:P.2.2=0->(aH ⟨P.1,k.ops,k.ps⟩ p P.2.1.1 896).2.2=0->dC (aH ⟨P.1,k.ops,k.ps⟩ p P.2.1.1 896).1.l (aH ⟨P.1,k.ops,k.ps⟩ p P.2.1.1 896).1.ops (aH ⟨P.1,k.ops,k.ps⟩ p P.2.1.1 896).1.ps/\p<(aH ⟨P.1,k.ops,k.ps⟩ p P.2.1.1 896).1.ps.length
theorem l33:bq Tryz.prog Tryz.f33=some c33.er:=by kernel_rfl
def Yp:LC:=bI (bI (bI (bI (bI c33.code))))
def Yq:LC:=oV Yp
def kB(k:Kr):Bk:= .var ((kC k.l k.ops k.ps).map .aa)
theorem fa(k:Kr):kB k≠.aZ:=by intro h;cases h
def TP(k:Kr)(p:Nat)(a:An)(r:CV)(m:Mem):Prop:=∃r' m',View 1 ⟨[r],m⟩ ⟨[r'],m'⟩/\r'=a.cv/\m'=[xB k p]
theorem Gd{k:Kr}{p:Nat}{X:Mem}{e n x:Int}:TP k p ⟨e,n,x,[]⟩ (.rv (.agg [.aa (.val (.int .i64 e)),.aa (.val (.int .i64 n)),.aa (.val (.int .i64 x)),.aB])) (xB k p::X):=
 ⟨_,_,View.of (X.length+1) [0] [] rfl rfl rfl rfl rfl (by simp[eX,Nat.blt]) (.put Lh .nil) (.pt rfl rfl (.eq rfl (bx _ _)) (.nil _)),rfl,rfl⟩
theorem Ls(k:Kr)(p:Nat)(k1:Kr)(hp:p<k1.ps.length)(hk:dC k1.l k1.ops k1.ps)(e0 e1:Int)(hb:(aH k1 p e0 896).2.2=0->dC (aH k1 p e0 896).1.l (aH k1 p e0 896).1.ops (aH k1 p e0 896).1.ps/\p<(aH k1 p e0 896).1.ps.length):
  aw Tryz.prog 1 Yq (nb Tryz.prog c33.ki (TP (vC p (aH k1 p e0 896) e1 k).1 p (vC p (aH k1 p e0 896) e1 k).2))
   ⟨lB 69 [(0,.rv (.one (.ptr 0 0))),(2,.rv (.one (.ptr 1 0))),(4,.rv (.one (.ptr 2 0))),(6,.rv (.one (.ptr 3 0)))],[xB k p,bS,.var [.aa (.val (.int .i64 e0)),.aa (.val (.int .i64 e1))],kB k1]⟩:=by
 refine rF k1 hk p hp e0 896 ?_;generalize aH k1 p e0 896=A at hb⊢;obtain⟨k2,fd,e⟩:=A;refine⟨trivial,trivial,?_⟩;refine bu (fun he=>?_) (fun he=>?_)
 .have he:e≠0:=he;rw[vC,if_pos he];exact Gd (X:=[_,_,_])
 have he:e=0:=he;subst he;obtain⟨oP,Lt⟩:=hb rfl;have e2:vC p (k2,fd,0) e1 k=if(aH k2 p e1 896).2.2≠0 then(k,An.no (aH k2 p e1 896).2.2)else((aH k2 p e1 896).1,⟨0,fd,(aH k2 p e1 896).2.1,[]⟩):=by rw[vC,if_neg aK]
 rw[e2];refine rF k2 oP p Lt e1 896 ?_;generalize aH k2 p e1 896=B;obtain⟨k3,fT,e⟩:=B;refine⟨trivial,trivial,?_⟩;refine bu (fun he=>?_) (fun he=>?_)
 .have he:e≠0:=he;rw[if_pos he];exact Gd (X:=[_,_,_])
 have he:¬e≠0:=fun h=>h he
 rw[if_neg he];exact Gd (k:=k3) (X:=[_,_,_])
theorem Ek(k:Kr)(p:Nat)(hw:KW k p)(hi:Q1 k p (fe k.l)):
  body Tryz.prog c33 [.rv (.one (.ptr 0 0))] [xB k p] (TP (mP k p).1 p (mP k p).2):=by
 refine MY k.l hw.mU ?_;have hS:mP k p=BC k p (fe k.l):=rfl;rw[hS];clear hS;generalize fe k.l=P at hi⊢;obtain⟨l,⟨e0,e1⟩,e⟩:=P;refine bu (fun he=>?_) (fun he=>?_)
 .have he:e≠0:=he;rw[BC,if_pos he];exact Gd (X:=[_,_])
 have he:e=0:=he;subst he;rw[BC,if_neg aK];refine gP k.l k.ops k.ps hw.mU hw.kr.lo hw.kr.lp hw.kr.sl hw.kr.ne ?_;refine⟨_,View.o1 7 [0,1,2,6] [3,4,5] ?_,Ls k p ⟨l,k.ops,k.ps⟩ hw.hp (hi.a rfl) e0 e1 (hi.b rfl)⟩
 .exact .pt rfl rfl (.eq rfl (bx _ _)) (.pt rfl rfl (.eq rfl (by simp[bS])) (.pe rfl rfl rfl (.pt rfl rfl (eG.var (.cons (.aP (.aa _)) (.cons (.eu (gA rfl rfl)) (.cons (.eu (gA rfl rfl)) .nil)))) (.nil _))))
theorem Lu(k:Kr)(p:Nat)(hw:KW k p)(hi:Q1 k p (fe k.l)){m:Mem}(id:Nat)(hb:cR m id=some (xB k p)){K:CV->Mem->Prop}(hK:K (mP k p).2.cv (a7 m id (xB (mP k p).1 p))):
  ar Tryz.prog 33 [.rv (.one (.ptr id 0))] m K:=
 Ga (args:=[]) (fun _=>rfl) (fun _=>rfl)
  (bK (cf Tryz.func33 l33 (Ek k p hw hi)) fun r m1⟨r',m',hv,hq⟩=>⟨r',m',hv,hq⟩) id hb hK
end Kn
end Go.Proofs.YthagjdhjmamakaaGreatDoor
