/- Part 33 of 43: what the law stands on. -/
import Derived.Test.YtojhmadmlnfpcaaGreatDoorK16
import Derived.Test.YtojhmadmlnfpcaaGreatDoorK32
set_option linter.unusedVariables false
set_option linter.unusedSimpArgs false
set_option linter.unnecessarySimpa false
set_option maxRecDepth 100000
set_option maxHeartbeats 64000000
namespace Go.Proofs.YtojhmadmlnfpcaaGreatDoor
open Go.AM Go.ChangeShapes Go.WideShapes Go.ChangeAt Go.RowKit
def c39:LF:= ⟨66,[.cell true 4 4],(.seq (.ai [qu 4 (.alloc [(qd 0),(qd 0),(qd 0),.aI])]) (.seq (.bQ [qm 8 0,qu 9 (.aW 8),qf 10 0 9,qf 11 2 10,ql 12 11,qm 13 0,qu 14 (.aW 13),qf 15 3 14,ql 16 15,qu 17 (.bO 4 12 16),qf 18 3 17,ql 19 18,qm 5 19] [(.cons 0 none (.cons 1 none (.cons 2 none (.cons 3 none (.cons 4 none (.cons 5 none (.cons 6 none (.cons 7 none (.cons 8 none (.cons 9 none (.cons 10 none (.cons 11 none (.cons 12 none .nil)))))))))))))]) (.seq (.ai [qu 6 (.aD (qi 0))]) (.seq (.ai [qu 7 (.aD (qi 0))]) (.seq (.seq (.ai [qm 20 1,qu 21 (.aW 20),qf 22 1 21,ql 23 22]) (.block 0 (.seq (.ai [qu 38 (.aF .eql 23 (qi 7)),qm 37 38]) (.cond 37 (.ai [qm 40 5,qm 41 1,qu 42 (.aW 41),qf 43 2 42,ql 44 43,qu 45 (qc 67 [40,44]),qm 39 45,qu 46 (.ext 39 0),qu 47 (.ext 39 1),qm 5 46,qm 7 47]) (.seq (.ai [qu 49 (.aF .eql 23 (qi 8)),qm 48 49]) (.cond 48 (.ai [qm 51 5,qm 52 1,qu 53 (.aW 52),qf 54 2 53,ql 55 54,qu 56 (qc 68 [51,55]),qm 50 56,qu 57 (.ext 50 0),qu 58 (.ext 50 1),qu 59 (.ext 50 2),qm 5 57,qm 6 58,qm 7 59]) (.bQ [qm 25 5,qm 26 1,qu 27 (.aW 26),qf 28 2 27,ql 29 28,qm 30 1,qu 31 (.aW 30),qf 32 6 31,ql 33 32,qu 34 (qc 69 [25,29,33]),qm 24 34,qu 35 (.ext 24 0),qu 36 (.ext 24 1),qm 5 35,qm 7 36] [(.cons 0 none (.cons 1 none (.cons 2 none (.cons 3 none (.cons 4 none (.cons 5 none (.cons 6 none (.cons 7 none (.cons 8 none (.cons 9 (some []) (.cons 10 none (.cons 11 none (.cons 12 none (.cons 13 none (.cons 14 none .nil)))))))))))))))]))))))) (.cO (.seq (.ai [qm 60 0,qm 61 5,qm 62 7,qu 63 (qc 70 [60,61,62]),qm 64 6,qu 65 (.build [(qd 0),(qd 0),(qd 0),.aI] [(0,1,63),(1,1,64)]),qw (.store 4 4 65)]) .ret)))))))⟩
namespace Kn
def HB(k:Kr)(p:Nat)(x:List fH×Int×Int):Kr×An:=(fY k p x.1 x.2.2,⟨x.2.2,x.2.1,0,[]⟩)
def nz(l:List fH)(c:Cl):List fH×Int×Int:=
 if c.ah=7 then((wD l c.fd).1,0,(wD l c.fd).2)else if c.ah=8 then M1 l c.fd else((M2 l c.fd c.a8).1,0,(M2 l c.fd c.a8).2)
def oB(k:Kr)(p:Nat)(c:Cl):Kr×An:=HB k p (nz (aT k.ps p) c)
theorem l39:bs Tryz.prog Tryz.f39=some c39.er:=by kernel_rfl
def ZD:LC:=bK (bK (bK (bK (bK c39.code))))
def ZE:LC:=pj ZD
theorem M9(k:Kr)(p:Nat)(hw:KW k p)(c:Cl)(x:List fH×Int×Int):
  aw Tryz.prog 2 ZE (QC c39.lj (HB k p x).1 p c (HB k p x).2)
   ⟨mg 66 [(0,.rv (.one (.ptr 0 0))),(1,.rv (.one (.ptr 1 0))),(4,.rv (.one (.ptr 2 0))),(5,j7 x.1),(6,an .i64 x.2.1),(7,an .i64 x.2.2)],[xB k p,cB c,bY]⟩:=by
 refine CU k p hw.kr hw.hp x.1 x.2.2 0 rfl ?_;exact db (X:=[_])
theorem JE(k:Kr)(p:Nat)(hw:KW k p)(c:Cl):
  body Tryz.prog c39 [.rv (.one (.ptr 0 0)),.rv (.one (.ptr 1 0))] [xB k p,cB c] (TC (oB k p c).1 p c (oB k p c).2):=by
 have hs:=M9 k p hw c (nz (aT k.ps p) c);have hg:=d5 hw.hp;rw[<-jd hw.hp]at hg;have hl:(aT k.ps p).length<=2097152:=by rw[jd hw.hp];have:=hw.kr.sl _ (aau hw.hp);omega
 have hS:oB k p c=HB k p (nz (aT k.ps p) c):=rfl;rw[hS];clear hS;refine ag hg ?_;generalize aT k.ps p=S at hl hs⊢;refine bH (fun h7=>?_) (fun h7=>?_)
 .have h7:c.ah=7:=h7;rw[nz,if_pos h7]at hs⊢;refine Ju S hl c.fd ?_;refine⟨_,View.o1 3 [0,1,2] [] ?_,hs⟩
  .exact .pt rfl rfl (.eq rfl (bD _ _)) (.pt rfl rfl (.eq rfl (b7 _)) (.pt rfl rfl (.eq rfl (by simp[bY])) (.nil _)))
 have h7:¬c.ah=7:=h7;rw[nz,if_neg h7]at hs⊢;refine bH (fun h8=>?_) (fun h8=>?_)
 .have h8:c.ah=8:=h8;rw[if_pos h8]at hs⊢;refine PA S hl c.fd ?_;refine⟨_,View.o1 3 [0,1,2] [] ?_,hs⟩
  .exact .pt rfl rfl (.eq rfl (bD _ _)) (.pt rfl rfl (.eq rfl (b7 _)) (.pt rfl rfl (.eq rfl (by simp[bY])) (.nil _)))
 have h8:¬c.ah=8:=h8;rw[if_neg h8]at hs⊢;refine Jv S hl c.fd c.a8 ?_;refine⟨trivial,_,View.o1 3 [0,1,2] [] ?_,hs⟩
 .exact .pt rfl rfl (.eq rfl (bD _ _)) (.pt rfl rfl (.eq rfl (b7 _)) (.pt rfl rfl (.eq rfl (by simp[bY])) (.nil _)))
theorem sY(k:Kr)(p:Nat)(hw:KW k p)(c:Cl):ar Tryz.prog 39 [.rv (.one (.ptr 0 0)),.rv (.one (.ptr 1 0))] [xB k p,cB c] (TC (oB k p c).1 p c (oB k p c).2):=
 cm Tryz.func39 l39 (JE k p hw c)
end Kn
def c40:LF:= ⟨85,[.cell true 4 4],(.seq (.ai [qu 4 (.alloc [(qd 0),(qd 0),(qd 0),.aI])]) (.seq (.ai [qu 5 (.aD (qi 128))]) (.seq (.seq (.ai [qm 12 1,qu 13 (.aW 12),qf 14 1 13,ql 15 14,qu 16 (.aF .eql 15 (qi 11))]) (.cond 16 (.ai [qu 5 (.aD (qi 64))]) .skip)) (.cO (.seq (.ai [qm 18 0,qm 19 1,qu 20 (.aW 19),qf 21 2 20,ql 22 21,qm 23 5,qu 24 (qc 63 [18,22,23]),qm 17 24,qu 25 (.ext 17 0),qu 26 (.ext 17 1),qu 27 (.ext 17 2),qu 6 (.alloc [(qd 0),(qd 0)]),qw (.store 2 6 25),qm 7 26,qm 8 27]) (.seq (.seq (.ai [qm 28 8,qu 29 (.aF .neq 28 (qi 0))]) (.cond 29 (.seq (.ai [qm 30 8,qu 31 (.build [(qd 0),(qd 0),(qd 0),.aI] [(0,1,30)]),qw (.store 4 4 31)]) .ret) .skip)) (.seq (.ai [qm 32 0,qu 33 (.aW 32),qf 34 0 33,qf 35 0 34,ql 36 35,qm 37 7,qu 38 (.bO 9 36 37),qL 39 9 38,qu 9 (.alloc [(qd 0),.aI,.aI,(.aa (.val (.string ⟨#[]⟩))),(qd 0),.aI,(qd 0),(qd 0),(qd 0)]),qw (.store 9 9 39)]) (.seq (.seq (.ai [qm 40 1,qu 41 (.aW 40),qf 42 1 41,ql 43 42,qu 44 (.aF .eql 43 (qi 11))]) (.cond 44 (.seq (.seq (.ai [qf 45 0 9,ql 46 45,qu 47 (.aF .neq 46 (qi 2))]) (.cond 47 (.seq (.ai [qu 48 (.build [(qd 0),(qd 0),(qd 0),.aI] [(0,1,(qi 11))]),qw (.store 4 4 48)]) .ret) .skip)) (.seq (.ai [qL 49 9 9,qu 50 (qc 72 [49]),qu 51 (qc 71 [50,(.c (.rv (.one (.aa (.val (.string ⟨#[10]⟩))))))]),qm 10 51]) (.seq (.ai [qf 52 2 9,ql 53 52,qu 54 (.len 1 53),qm 55 10,qu 56 (.TI 55),qu 57 (.build [(qd 0),(qd 0),(qd 0),.aI] [(1,1,54),(3,1,56)]),qw (.store 4 4 57)]) .ret))) .skip)) (.seq (.ai [qf 58 1 9,ql 59 58,qu 60 (.len 1 59),qf 61 2 9,ql 62 61,qu 63 (.len 1 62),qu 64 (.aF .add 60 63),qf 65 5 9,ql 66 65,qu 67 (.len 1 66),qu 68 (.aF .add 64 67),qm 11 68]) (.seq (.seq (.bQ [qf 69 0 9,ql 70 69,qu 71 (.aF .eql 70 (qi 5)),qm 72 71,qg 73 (.aD 0) 72 true,qg 74 (.aW 73) 72 true,qg 75 (.bg 0 74) 72 true,qg 76 (.load true 3 75) 72 true,qg 77 (.bg 6 9) 72 true,qg 78 (.load false 1 77) 72 true,qg 79 (qc 35 [76,78]) 72 true,qu 80 (.pick 72 79 (qb false))] [(.cons 0 none (.cons 1 none (.cons 2 none (.cons 3 none (.cons 4 none (.cons 5 none (.cons 6 none (.cons 7 none (.cons 8 none (.cons 9 none (.cons 10 (some []) (.cons 11 none .nil))))))))))))]) (.cond 80 (.ai [qu 11 (.aD (qi 1))]) .skip)) (.seq (.ai [qf 81 0 9,ql 82 81,qm 83 11,qu 84 (.build [(qd 0),(qd 0),(qd 0),.aI] [(1,1,82),(2,1,83)]),qw (.store 4 4 84)]) .ret)))))))))))⟩
namespace bJ
def kZ(sep:dN)(l:List dN):dN:=Lib.join l sep
theorem CZ(l:List dN):(l.map cz).map (·.data.toList)=l:=by rw[abd];exact List.map_id'' (fun _=>rfl) l
theorem PH(l:List dN)(sep:dN)(hN:l.length<=4194304)(hlen:(kZ sep l).length<=140737488355328){m:Mem}{K:CV->Mem->Prop}(h:K (vT (kZ sep l)) m):ar Tryz.prog 71 [txV l,vT sep] m K:=by
 refine⟨⟨Tryz.f71,Tryz.func71,rfl,by decide⟩,fun ρ w vs hM hl hd=>?_⟩
 obtain⟨v0,h0,d0⟩:=hd 0 _ rfl;obtain⟨v1,h1,d1⟩:=hd 1 _ rfl;have Ef:v1= .string (cz sep):=(bM d1).1;have DC:vs=[v0,v1]:=by
  match vs,hl with
  | [a,b],_=>simp at h0 h1;rw[h0,h1]
 have fS:∀(W':World)(v:Value),v= .string (cz (kZ sep l))->Below w.heap.size w W'->∃UP r m' ρ',Ending.returned v= .returned UP/\K r m'/\aH ρ' m' W'/\b8 ρ' W' r UP/\Ext ρ m w ρ' m' W':=by
  rintro W' v rfl hb;refine⟨_,_,m,ρ,rfl,h,hM.uq ⟨hb.size,fun b hS=>hb.block b (hM.S b hS),fun k hk=>hb.block _ (hM.aV k hk).1⟩,dz.val _ rfl,?_⟩
  exact⟨aaj _,fun _ _=>rfl,fun _ h=>h,fun _ h=>.inl h,fun k h=>.inr ⟨k,h,rfl⟩,fun b sb _=>hb.block b sb,hb.size,hb.os,hb.tape,hb.output⟩
 have hD:dz ρ.S w (.sl 1 (l.map tD)) v0:=d0;rw[DC,Ef];generalize Ll:l.map tD=elems at hD;cases hD with
 |nil _ a cap hc=>
  have:l=[]:=by simpa using Ll
  subst this;refine(I9 a cap (cz sep) w).mono fun e W'⟨he,hw⟩=>?_
  subst he;exact fS W' _ rfl (hw▸Below.refl _ _)
 |sl _ _ b off cap u hS rP bp dI hc cj=>
  have ZF:elems.length=(l.map cz).length:=by rw[<-Ll];simp
  rw[ZF]at rP⊢;refine(Pi b off cap (l.map cz) (cz sep) w (fun j x hj=>?_) (hM.S b hS) (by rw[aad];omega) rP (by rw[CZ];exact hlen)).mono fun e W'⟨he,hw⟩=>?_
  .rw[aaf]at hj;cases TB:l[j]? with
   |none=>rw[TB]at hj;cases hj
   |some t=>
    rw[TB]at hj;simp only[aaC,aaA]at hj;subst hj;have e1:elems[j]? =some [.val (.string (cz t))]:=by rw[<-Ll,aaf,TB];rfl
    have e2:=hc j _ 0 _ e1 rfl;have e3:=cj j _ 0 _ e1 rfl;have e4:u j 0= .string (cz t):=by
     generalize u j 0=x at e3;cases e3 with
     |val _ _=>rfl
    rw[e4]at e2;simpa using e2
  .subst he;refine fS W' _ ?_ hw;rw[CZ];rfl
end bJ
namespace Kn
def rE(e:NE):bJ.dN:=e.1.data.toList
def tB(t:bJ.dN):List (List Dt):=fM (t.map fun b=>((b.toNat:Nat):Int))
def FO(o:Obj):bJ.dN:=bJ.kZ [10] ((o.ak.map nu).map rE)
def HC(k:Kr)(o:Obj):Int:=if o.ah=5/\ek k.ps o.aL=true then 1 else AL (AL o.data.length o.ak.length) o.aj.length
def AN(k:Kr)(c:Cl)(o:Obj):An:=
 if c.ah=11 then(if o.ah≠2 then An.no 11 else⟨0,o.ak.length,0,tB (FO o)⟩)else⟨0,o.ah,HC k o,[]⟩
def l7(k:Kr)(c:Cl)(w:(Int×Int)×Int×Int):An:=if w.2.2≠0 then An.no w.2.2 else AN k c (nf k.l w.2.1)
def C0(c:Cl):Int:=if c.ah=11 then 64 else 128
def jh(k:Kr)(p:Nat)(c:Cl):Kr×An:=(k,l7 k c (bu k p c.fd (C0 c)))
theorem VT(es:List NE):es.map Xj=(es.map rE).map bJ.tD:=by
 rw[abd];refine abA fun e _=>?_
 obtain⟨t,ht⟩:=bJ.oV e.1;show [Dt.val (.string e.1)]=[Dt.val (.string (bJ.cz e.1.data.toList))];rw[ht];rfl
theorem C1:∀(l:List bJ.dN)(n:Nat),(∀t,t∈l->t.length<=n)->(bJ.kZ [10] l).length<=l.length*(n+1)
 | [],_,_=>by simp[bJ.kZ,Lib.join]
 | [t],n,h=>by have:=h t aG;simp[bJ.kZ,Lib.join];omega
 |t::u::r,n,h=>by
  have h1:=h t aG;have h2:=C1 (u::r) n fun x hx=>h x (by simp[hx])
  have e:(bJ.kZ [10] (t::u::r)).length=t.length+1+(bJ.kZ [10] (u::r)).length:=by simp[bJ.kZ,Lib.join];omega
  rw[e];simp only[aax]at h2⊢;have e2:(r.length+1+1)*(n+1)=(r.length+1)*(n+1)+(n+1):=by rw[aa2 (r.length+1) 1 (n+1),abl]
  rw[e2];omega
theorem JF(t:bJ.dN):pG (bJ.cz t)=af (tB t):=by show t.map _=_;rw[af,tB,fM,abd,abd];rfl
theorem l40:bs Tryz.prog Tryz.f40=some c40.er:=by kernel_rfl
def C18:LC:=bK (bK (bK c40.code))
def G18:LC:=pj C18
theorem ZG{m:Mem}{e n x:Int}{id:Nat}{d:List (List Dt)}{Z:Nat->Prop}{σ:Nat->Nat}(hz:Z id)(hm:m[id]? =some (.row 1 (af d))):
  qv σ m Z (.rv (.agg [.aa (.val (.int .i64 e)),.aa (.val (.int .i64 n)),.aa (.val (.int .i64 x)),.row id 1 0 none])) (An.cv ⟨e,n,x,d⟩):=
 .rv (.agg rfl fun i c c' h1 h2=>by
  match i,h1,h2 with
  |0,h1,h2=>cases h1;cases h2;exact .aQ (.aa _)
  |1,h1,h2=>cases h1;cases h2;exact .aQ (.aa _)
  |2,h1,h2=>cases h1;cases h2;exact .aQ (.aa _)
  |3,h1,h2=>cases h1;cases h2;exact .fv (ib hz hm)
  |n+4,h1,h2=>simp at h1)
theorem JG(k:Kr)(p:Nat)(hw:KW k p)(c:Cl)(need:Int):
  aw Tryz.prog 2 G18 (QC c40.lj k p c (l7 k c (bu k p c.fd need)))
   ⟨mg 85 [(0,.rv (.one (.ptr 0 0))),(1,.rv (.one (.ptr 1 0))),(4,.rv (.one (.ptr 2 0))),(5,an .i64 need)],[xB k p,cB c,bY]⟩:=by
 refine j8 k p hw c.fd need 0 rfl ?_;have hh:= @KW.held k p hw c.fd need;generalize bu k p c.fd need=w at hh⊢;obtain⟨⟨o,r⟩,b,e⟩:=w;refine br (fun he=>?_) (fun he=>?_)
 .have he:e≠0:=he;have e1:l7 k c ((o,r),b,e)=An.no e:=by rw[l7,if_pos he]
  rw[e1];exact db (X:=[_,_])
 have he:e=0:=he;subst he;obtain⟨n,j,h1,h2,h3,h4,h5⟩:=hh rfl;have h3:b=j:=h3;subst h3;have Ec:=hw.kr.sm _ (aau h4);have N9:=hw.nm _ (aau h4);have e1:l7 k c ((o,r),((j:Nat):Int),0)=AN k c k.l[j]:=by rw[l7,if_neg aG,sX h4]
 rw[e1];refine ag (iC h4) ?_;generalize k.l[j]=ob at Ec N9⊢;refine bH (fun Kq=>?_) (fun Kq=>?_)
 .have Kq:c.ah=11:=Kq;rw[AN,if_pos Kq];refine br (fun GM=>?_) (fun GM=>?_)
  .have GM:ob.ah≠2:=GM;rw[if_pos GM];exact db (X:=[_,_,_])
  have GM:¬ob.ah≠2:=fun h=>h GM
  rw[if_neg GM];obtain⟨es,qn⟩:=Ec.t.2.1;have Ll:es.length<=8:=by have:=Ec.e;rw[qn]at this;simpa using this
  have Q9:ob.ak.map nu=es:=by rw[qn,m6]
  rw[Q9]at N9;have hN:FO ob=bJ.kZ [10] (es.map rE):=by rw[FO,Q9]
  rw[hN];have hJ:(bJ.kZ [10] (es.map rE)).length<=200:=by
   have:=C1 (es.map rE) 12 fun t ht=>by obtain⟨e,he,rfl⟩:=aay.1 ht;have:=N9 e he;show e.1.data.toList.length<=12;rwa [abv]
   rw[aad]at this;omega
  refine MM ob es qn om ?_;rw[VT];refine bJ.PH (es.map rE) [10] (by rw[aad];omega) om ?_
  have dI:(bJ.cz (bJ.kZ [10] (es.map rE))).size<=140737488355328:=by rw[bJ.mG];omega
  have hR:=JF (bJ.kZ [10] (es.map rE));generalize bJ.kZ [10] (es.map rE)=T at dI hR;refine⟨dI,?_⟩;refine⟨_,_,View.o 6 [0,1] [5] (.put (ZG rfl (congrArg (fun x=>some (Bk.row 1 x)) hR)) .nil) (.pt rfl rfl (.eq rfl (bD _ _)) (.pt rfl rfl (.eq rfl (b7 _)) (.nil _))),rfl,rfl⟩
 have Kq:¬c.ah=11:=Kq;rw[AN,if_neg Kq];have hq:(ob.aj.length:Int)=((ob.aj.map bw.enc).length:Int):=by rw[aad]
 refine bH (fun h5=>?_) (fun h5=>?_)
 .have h5:ob.ah=5:=h5;refine ol k.l k.ops k.ps ob.aL ?_;refine⟨trivial,?_⟩;cases hl:ek k.ps ob.aL with
  |true=>
   rw[HC,if_pos ⟨h5,hl⟩];exact db (X:=[_,_,_])
  |false=>
   rw[HC,if_neg (by simp[hl]),hq]
   exact db (X:=[_,_,_])
 .have h5:¬ob.ah=5:=h5;rw[HC,if_neg (fun h=>h5 h.1),hq]
  refine⟨trivial,?_⟩;exact db (X:=[_,_,_])
theorem FP(k:Kr)(p:Nat)(hw:KW k p)(c:Cl):
  body Tryz.prog c40 [.rv (.one (.ptr 0 0)),.rv (.one (.ptr 1 0))] [xB k p,cB c] (TC (jh k p c).1 p c (jh k p c).2):=by
 have hs:=fun need=>JG k p hw c need
 refine bH (fun h=>?_) (fun h=>?_)
 .have h:c.ah=11:=h;have e:jh k p c=(k,l7 k c (bu k p c.fd 64)):=by rw[jh,C0,if_pos h]
  rw[e];refine⟨_,View.o1 3 [0,1,2] [] ?_,hs 64⟩
  .exact .pt rfl rfl (.eq rfl (bD _ _)) (.pt rfl rfl (.eq rfl (b7 _)) (.pt rfl rfl (.eq rfl (by simp[bY])) (.nil _)))
 .have h:¬c.ah=11:=h;have e:jh k p c=(k,l7 k c (bu k p c.fd 128)):=by rw[jh,C0,if_neg h]
  rw[e];refine⟨_,View.o1 3 [0,1,2] [] ?_,hs 128⟩
  .exact .pt rfl rfl (.eq rfl (bD _ _)) (.pt rfl rfl (.eq rfl (b7 _)) (.pt rfl rfl (.eq rfl (by simp[bY])) (.nil _)))
theorem wJ(k:Kr)(p:Nat)(hw:KW k p)(c:Cl):ar Tryz.prog 40 [.rv (.one (.ptr 0 0)),.rv (.one (.ptr 1 0))] [xB k p,cB c] (TC (jh k p c).1 p c (jh k p c).2):=
 cm Tryz.func40 l40 (FP k p hw c)
end Kn
def c41:LF:= ⟨142,[.cell true 4 4],(.seq (.ai [qu 4 (.alloc [(qd 0),(qd 0),(qd 0),.aI])]) (.seq (.ai [qu 5 (.aD (qi 24))]) (.seq (.seq (.ai [qm 16 1,qu 17 (.aW 16),qf 18 1 17,ql 19 18,qu 20 (.aF .eql 19 (qi 14))]) (.cond 20 (.ai [qu 5 (.aD (qi 40))]) .skip)) (.cO (.seq (.ai [qm 22 0,qm 23 1,qu 24 (.aW 23),qf 25 2 24,ql 26 25,qm 27 5,qu 28 (qc 63 [22,26,27]),qm 21 28,qu 29 (.ext 21 0),qu 30 (.ext 21 1),qu 31 (.ext 21 2),qu 6 (.alloc [(qd 0),(qd 0)]),qw (.store 2 6 29),qm 7 30,qm 8 31]) (.seq (.seq (.ai [qm 32 8,qu 33 (.aF .neq 32 (qi 0))]) (.cond 33 (.seq (.ai [qm 34 8,qu 35 (.build [(qd 0),(qd 0),(qd 0),.aI] [(0,1,34)]),qw (.store 4 4 35)]) .ret) .skip)) (.seq (.seq (.ai [qm 36 1,qu 37 (.aW 36),qf 38 1 37,ql 39 38,qu 40 (.aF .eql 39 (qi 13))]) (.cond 40 (.seq (.ai [qm 42 1,qu 43 (.aW 42),qf 44 8 43,ql 45 44,qu 46 (.Kv 45),qu 47 (qc 73 [46]),qm 41 47,qu 48 (.ext 41 0),qu 49 (.ext 41 1),qu 50 (.ext 41 2),qm 9 48,qm 10 49,qm 11 50]) (.seq (.ai [qm 51 11,qu 52 (.aF .neq 51 (qi 0))]) (.cond 52 (.seq (.ai [qm 53 11,qu 54 (.build [(qd 0),(qd 0),(qd 0),.aI] [(0,1,53)]),qw (.store 4 4 54)]) .ret) .skip))) .skip)) (.cO (.seq (.bQ [qm 56 0,qu 57 (.aW 56),qf 58 0 57,qf 59 0 58,ql 60 59,qm 61 7,qm 62 1,qu 63 (.aW 62),qf 64 7 63,ql 65 64,qu 66 (qc 74 [60,61,65,(qb true),(qb false)]),qm 55 66,qu 67 (.ext 55 0),qu 68 (.ext 55 1),qu 12 (.alloc [(qd 0),(qd 0),(.aa (.val (.string ⟨#[]⟩)))]),qw (.store 3 12 67),qm 8 68] [(.cons 0 none (.cons 1 none (.cons 2 none (.cons 3 none (.cons 4 none (.cons 5 none (.cons 6 none (.cons 7 none (.cons 8 none (.cons 9 none (.xK (.cons 10 (some []) (.cons 11 none (.cons 12 none (.cons 13 none (.cons 14 (some [9,4]) (.cons 15 (some []) (.cons 16 none .nil))))))) (.cons 14 (some [9,4]) (.cons 10 (some []) (.cons 11 none (.cons 12 none (.cons 13 none (.cons 15 (some []) (.cons 16 none .nil))))))))))))))))))]) (.cO (.seq (.block 0 (.seq (.ai [qm 77 8,qu 78 (.aF .neq 77 (qi 0)),qm 76 78]) (.cond 76 .skip (.seq (.ai [qf 80 2 12,ql 81 80,qu 82 (.aF .eql 81 (.c (.rv (.one (.aa (.val (.string ⟨#[]⟩))))))),qm 79 82]) (.cond 79 (.ai [qu 8 (.aD (qi 8))]) (.seq (.ai [qm 84 1,qu 85 (.aW 84),qf 86 1 85,ql 87 86,qu 88 (.aF .eql 87 (qi 14)),qm 89 88,qg 90 (.bg 0 12) 89 true,qg 91 (.load false 1 90) 89 true,qg 92 (.aF .lss 91 (qi 0)) 89 true,qu 93 (.pick 89 92 (qb false)),qm 83 93]) (.cond 83 (.ai [qu 8 (.aD (qi 6))]) (.seq (.ai [qm 95 1,qu 96 (.aW 95),qf 97 1 96,ql 98 97,qu 99 (.aF .eql 98 (qi 14)),qm 94 99]) (.cond 94 (.seq (.bQ [qm 101 0,qu 102 (.aW 101),qf 103 0 102,qf 104 0 103,ql 105 104,qf 106 1 12,ql 107 106,qf 108 2 12,ql 109 108,qu 110 (qc 75 [105,107,109]),qm 100 110,qu 111 (.ext 100 0),qu 112 (.ext 100 1),qu 113 (.ext 100 2),qm 13 111,qm 14 112,qm 15 113] [(.cons 0 none (.cons 1 none (.cons 2 none (.cons 3 none (.cons 4 none (.cons 5 none (.cons 6 none (.cons 7 none (.cons 8 none (.cons 9 (some []) (.cons 10 none (.cons 11 none (.cons 12 none (.cons 13 none (.cons 14 none (.cons 15 none (.cons 16 none .nil)))))))))))))))))]) (.ai [qm 114 0,qm 115 13,qm 116 15,qu 117 (qc 76 [114,115,116]),qm 8 117])) (.seq (.ai [qf 119 0 12,ql 120 119,qu 121 (.aF .geq 120 (qi 0)),qm 118 121]) (.cond 118 (.ai [qu 8 (.aD (qi 7))]) (.seq (.ai [qm 123 1,qu 124 (.aW 123),qf 125 1 124,ql 126 125,qu 127 (.aF .eql 126 (qi 13)),qm 122 127]) (.cond 122 (.bQ [qm 129 0,qL 130 3 12,qm 131 1,qu 132 (.aW 131),qf 133 8 132,ql 134 133,qu 135 (.Kv 134),qu 136 (.build [(qd 0),.aI,.aI,(.aa (.val (.string ⟨#[]⟩))),(qd 0),.aI,(qd 0),(qd 0),(qd 0)] [(0,1,(qi 3)),(3,1,135)]),qu 137 (qc 77 [129,130,136]),qm 128 137,qu 138 (.ext 128 0),qu 139 (.ext 128 1),qm 8 139] [(.cons 0 none (.cons 1 none (.cons 2 none (.cons 3 none (.cons 4 none (.cons 5 none (.cons 6 (some [1]) (.cons 7 none (.cons 8 (some []) (.cons 9 none (.cons 10 none (.cons 11 none (.cons 12 none .nil)))))))))))))]) (.ai [qm 70 0,qL 71 3 12,qu 72 (.build [(qd 0),.aI,.aI,(.aa (.val (.string ⟨#[]⟩))),(qd 0),.aI,(qd 0),(qd 0),(qd 0)] [(0,1,(qi 2))]),qu 73 (qc 77 [70,71,72]),qm 69 73,qu 74 (.ext 69 0),qu 75 (.ext 69 1),qm 8 75])))))))))))))) (.cO (.seq (.ai [qm 140 8,qu 141 (.build [(qd 0),(qd 0),(qd 0),.aI] [(0,1,140)]),qw (.store 4 4 141)]) .ret)))))))))))))⟩
namespace Kn
def wK(d:List Int):bJ.dN:=d.map fun n=>UInt8.ofNat n.toNat
def wL(d:List Int):Obj:=⟨3,[],[],bJ.cz (wK d),0,[],0,0,0⟩
def FQ:Obj:=⟨2,[],[],⟨#[]⟩,0,[],0,0,0⟩
theorem AO(k:Int)(t:ByteArray):PC ⟨k,[],[],t,0,[],0,0,0⟩:=⟨⟨⟨⟨[],rfl⟩,⟨[],rfl⟩,aG⟩,aG,aG,aG,aG⟩,rfl⟩
def FS(k:Kr)(f:R4):List Obj×Int×Int:=da k.l f.cL (bJ.cz f.name)
def nA(k:Kr)(c:Cl)(f:R4):Kr×Int:=
 if f.iL≠0 then(k,f.iL)
 else if f.name=[]then(k,8)
 else if c.ah=14 then(if f.bv<0 then(k,6)else(cQ k (FS k f).1 (FS k f).2.2,(FS k f).2.2))
 else if f.bv>=0 then(k,7)
 else if c.ah=13 then((cI k f (wL c.data)).1,(cI k f (wL c.data)).2.2)
 else((cI k f FQ).1,(cI k f FQ).2.2)
def rF(c:Cl):Int:=if c.ah=14 then 40 else 24
def ic(k:Kr)(c:Cl)(w:(Int×Int)×Int×Int):Kr×Int:=
 if w.2.2≠0 then(k,w.2.2)
 else if c.ah=13/\(bJ.cG (wK c.data)).2.2≠0 then(k,(bJ.cG (wK c.data)).2.2)
 else nA k c (iD k w.2.1 c.cA true false)
def JH(x:Kr×Int):Kr×An:=(x.1,An.no x.2)
def iE(k:Kr)(p:Nat)(c:Cl):Kr×An:=JH (ic k c (bu k p c.fd (rF c)))
theorem l41:bs Tryz.prog Tryz.f41=some c41.er:=by kernel_rfl
def ZH:LC:=bK (bK (bK c41.code))
def VU:LC:=pj ZH
def ZI:LC:=bK (bK (bK VU))
def VV:LC:=pj ZI
def ZJ:LC:=bK VV
def VW:LC:=pj ZJ
def VX:LC:=bK VW
def VY:LC:=pj VX
theorem JI(k:Kr)(p:Nat)(c:Cl)(e:Int):
  aw Tryz.prog 2 VY (QC c41.lj k p c (An.no e)) ⟨mg 142 [(0,.rv (.one (.ptr 0 0))),(1,.rv (.one (.ptr 1 0))),(4,.rv (.one (.ptr 2 0))),(8,an .i64 e)],[xB k p,cB c,bY]⟩:=db (X:=[_])
theorem ZK(t:bJ.dN){A B:Prop}(ha:t=[]->A)(hb:t≠[]->B): @Bool.rec (fun _=>Prop) B A ((bJ.cz t).toList==(⟨#[]⟩:ByteArray).toList):=bJ.kW (b:=[]) ha hb
theorem m3{σ:Nat->Nat}(hσ:σ 0=0/\σ 1=1/\σ 2=2){Z:Nat->Prop}(hZ:¬Z 0/\¬Z 1/\¬Z 2){k:Kr}{p:Nat}{c:Cl}{X:Mem}:fo σ (xB k p::cB c::bY::X) Z 0 [xB k p,cB c,bY]:=by
 obtain⟨h0,h1,h2⟩:=hσ;obtain⟨z0,z1,z2⟩:=hZ;exact .put (by rw[h0];exact z0) (by rw[h0];rfl) (.eq rfl (bD _ _)) (.put (by rw[h1];exact z1) (by rw[h1];rfl) (.eq rfl (b7 _)) (.put (by rw[h2];exact z2) (by rw[h2];rfl) (.eq rfl (by simp[bY])) (.nil _)))
theorem Na(k:Kr)(p:Nat)(hw:KW k p)(c:Cl)(f:R4):
  aw Tryz.prog 2 VW (QC c41.lj (JH (nA k c f)).1 p c (JH (nA k c f)).2)
   ⟨mg 142 [(0,.rv (.one (.ptr 0 0))),(1,.rv (.one (.ptr 1 0))),(4,.rv (.one (.ptr 2 0))),(8,an .i64 f.iL),(12,.rv (.one (.ptr 3 0)))],[xB k p,cB c,bY,.var ((Tv f).map .aa)]⟩:=by
 have FT:=fun k e=>JI k p c e
 obtain⟨bv,cL,name,iL⟩:=f;refine br (fun he=>?_) (fun he=>?_)
 .have he:iL≠0:=he;have e1:nA k c ⟨bv,cL,name,iL⟩=(k,iL):=by rw[nA,if_pos he]
  rw[e1];refine⟨_,View.o 4 [0,1,2] [] ?_ (m3 ⟨rfl,rfl,rfl⟩ ⟨eZ rfl,eZ rfl,eZ rfl⟩),FT k iL⟩;repeat(first|exact .nil|refine .ap ?_|refine .eq rfl ?_)
 have he:iL=0:=he;subst he;refine ZK name (fun h1=>?_) (fun h1=>?_)
 .have e1:nA k c ⟨bv,cL,name,0⟩=(k,8):=by rw[nA,if_neg aG,if_pos h1]
  rw[e1];refine⟨_,View.o 4 [0,1,2] [] ?_ (m3 ⟨rfl,rfl,rfl⟩ ⟨eZ rfl,eZ rfl,eZ rfl⟩),FT k 8⟩;repeat(first|exact .nil|refine .ap ?_|refine .eq rfl ?_)
 have e0:nA k c ⟨bv,cL,name,0⟩=if c.ah=14 then(if bv<0 then(k,6)else(cQ k (FS k ⟨bv,cL,name,0⟩).1 (FS k ⟨bv,cL,name,0⟩).2.2,(FS k ⟨bv,cL,name,0⟩).2.2))
   else if bv>=0 then(k,7)
   else if c.ah=13 then((cI k ⟨bv,cL,name,0⟩ (wL c.data)).1,(cI k ⟨bv,cL,name,0⟩ (wL c.data)).2.2)
   else((cI k ⟨bv,cL,name,0⟩ FQ).1,(cI k ⟨bv,cL,name,0⟩ FQ).2.2):=by rw[nA,if_neg aG,if_neg h1]
 rw[e0];refine bH (fun Nb=>?_) (fun Nb=>?_)
 .have Nb:c.ah=14:=Nb;rw[if_pos Nb];refine aB (fun ho=>?_) (fun ho=>?_)
  .have ho:bv<0:=ho;rw[if_pos ho];refine⟨_,View.o 4 [0,1,2] [] ?_ (m3 ⟨rfl,rfl,rfl⟩ ⟨eZ rfl,eZ rfl,eZ rfl⟩),FT k 6⟩;repeat(first|exact .nil|refine .ap ?_|refine .eq rfl ?_)
  have ho:¬bv<0:=ho;rw[if_neg ho];refine cF (beq_iff_eq.2 Nb) ?_;refine FA k.l hw.DL cL (bJ.cz name) ?_;refine⟨trivial,?_⟩;refine nc k p hw.kr _ _ 0 rfl ?_;refine⟨_,View.o 4 [0,1,2] [] ?_ (m3 ⟨rfl,rfl,rfl⟩ ⟨eZ rfl,eZ rfl,eZ rfl⟩),FT _ _⟩;repeat(first|exact .nil|refine .ap ?_|refine .eq rfl ?_)
 have Nb:¬c.ah=14:=Nb;rw[if_neg Nb];refine dZ (beq_eq_false_iff_ne.2 Nb) ?_;refine aB (fun ho=>?_) (fun ho=>?_)
 .have ho:bv>=0:=ho;rw[if_pos ho];refine⟨_,View.o 4 [0,1,2] [] ?_ (m3 ⟨rfl,rfl,rfl⟩ ⟨eZ rfl,eZ rfl,eZ rfl⟩),FT k 7⟩;repeat(first|exact .nil|refine .ap ?_|refine .eq rfl ?_)
 have ho:¬bv>=0:=ho;rw[if_neg ho];refine bH (fun DM=>?_) (fun DM=>?_)
 .have DM:c.ah=13:=DM;rw[if_pos DM];refine ag (gj c.data) ?_;refine⟨⟨rfl,trivial⟩,?_⟩;refine mz (AK _ _ _ _) (sV k p hw ⟨bv,cL,name,0⟩ (wL c.data) (AO _ _) 0 rfl ?_);refine⟨trivial,?_⟩;refine⟨_,View.o 4 [0,1,2] [] ?_ (m3 ⟨rfl,rfl,rfl⟩ ⟨eZ rfl,eZ rfl,eZ rfl⟩),FT _ _⟩;repeat(first|exact .nil|refine .ap ?_|refine .eq rfl ?_)
 have DM:¬c.ah=13:=DM;rw[if_neg DM];refine mz (AK _ _ _ _) (sV k p hw ⟨bv,cL,name,0⟩ FQ (AO _ _) 0 rfl ?_);refine⟨_,View.o 4 [0,1,2] [] ?_ (m3 ⟨rfl,rfl,rfl⟩ ⟨eZ rfl,eZ rfl,eZ rfl⟩),FT _ _⟩;repeat(first|exact .nil|refine .ap ?_|refine .eq rfl ?_)
theorem C2(k:Kr)(p:Nat)(hw:KW k p)(c:Cl)(ax:Int)(R:Kr×Int)(hR:R=nA k c (iD k ax c.cA true false)):
  aw Tryz.prog 2 VV (QC c41.lj (JH R).1 p c (JH R).2)
   ⟨mg 142 [(0,.rv (.one (.ptr 0 0))),(1,.rv (.one (.ptr 1 0))),(4,.rv (.one (.ptr 2 0))),(7,an .i64 ax)],[xB k p,cB c,bY]⟩:=by
 have hs:=Na k p hw c (iD k ax c.cA true false);rw[<-hR]at hs;refine⟨?_,?_⟩
 .refine rD k p hw ax c.cA true false ?_;refine⟨trivial,⟨rfl,rfl,trivial⟩,trivial,_,View.o1 4 [0,1,2,3] [] ?_,hs⟩
  .exact .pt rfl rfl (.eq rfl (bD _ _)) (.pt rfl rfl (.eq rfl (b7 _)) (.pt rfl rfl (.eq rfl (by simp[bY])) (.pm rfl rfl rfl)))
 .refine⟨⟨rfl,rfl,trivial⟩,?_⟩;refine rD k p hw ax c.cA true false ?_;refine⟨trivial,trivial,_,View.o1 4 [0,1,2,3] [] ?_,hs⟩
  .exact .pt rfl rfl (.eq rfl (bD _ _)) (.pt rfl rfl (.eq rfl (b7 _)) (.pt rfl rfl (.eq rfl (by simp[bY])) (.pm rfl rfl rfl)))
theorem Nc(k:Kr)(p:Nat)(hw:KW k p)(c:Cl)(need:Int):
  aw Tryz.prog 2 VU (QC c41.lj (JH (ic k c (bu k p c.fd need))).1 p c (JH (ic k c (bu k p c.fd need))).2)
   ⟨mg 142 [(0,.rv (.one (.ptr 0 0))),(1,.rv (.one (.ptr 1 0))),(4,.rv (.one (.ptr 2 0))),(5,an .i64 need)],[xB k p,cB c,bY]⟩:=by
 refine j8 k p hw c.fd need 0 rfl ?_;generalize bu k p c.fd need=w;obtain⟨⟨o,r⟩,b,e⟩:=w;refine br (fun he=>?_) (fun he=>?_)
 .have he:e≠0:=he;have e1:ic k c ((o,r),b,e)=(k,e):=by rw[ic,if_pos he]
  rw[e1];exact db (X:=[_,_])
 have he:e=0:=he;subst he;refine bH (fun DM=>?_) (fun DM=>?_)
 .have DM:c.ah=13:=DM;refine ag (gj c.data) ?_;refine bJ.wm (wK c.data) ?_;refine br (fun hs=>?_) (fun hs=>?_)
  .have hs:(bJ.cG (wK c.data)).2.2≠0:=hs;have e1:ic k c ((o,r),b,0)=(k,(bJ.cG (wK c.data)).2.2):=by rw[ic,if_neg aG,if_pos ⟨DM,hs⟩]
   rw[e1];exact db (X:=[_,_])
  .have hs:¬(bJ.cG (wK c.data)).2.2≠0:=fun h=>h hs
   refine⟨_,View.o 4 [0,1,2] [] ?_ (m3 ⟨rfl,rfl,rfl⟩ ⟨eZ rfl,eZ rfl,eZ rfl⟩),C2 k p hw c b (ic k c ((o,r),b,0)) (by rw[ic,if_neg aG,if_neg (fun h=>hs h.2)])⟩
   repeat(first|exact .nil|refine .ap ?_|refine .eq rfl ?_)
 .have DM:¬c.ah=13:=DM;refine⟨_,View.o 4 [0,1,2] [] ?_ (m3 ⟨rfl,rfl,rfl⟩ ⟨eZ rfl,eZ rfl,eZ rfl⟩),C2 k p hw c b (ic k c ((o,r),b,0)) (by rw[ic,if_neg aG,if_neg (fun h=>DM h.1)])⟩
  repeat(first|exact .nil|refine .ap ?_|refine .eq rfl ?_)
theorem sP(k:Kr)(p:Nat)(hw:KW k p)(c:Cl):
  body Tryz.prog c41 [.rv (.one (.ptr 0 0)),.rv (.one (.ptr 1 0))] [xB k p,cB c] (TC (iE k p c).1 p c (iE k p c).2):=by
 have hs:=fun need=>Nc k p hw c need
 refine bH (fun h=>?_) (fun h=>?_)
 .have h:c.ah=14:=h;have e:iE k p c=JH (ic k c (bu k p c.fd 40)):=by rw[iE,rF,if_pos h]
  rw[e];refine⟨_,View.o 3 [0,1,2] [] ?_ (m3 ⟨rfl,rfl,rfl⟩ ⟨eZ rfl,eZ rfl,eZ rfl⟩),hs 40⟩;repeat(first|exact .nil|refine .ap ?_|refine .eq rfl ?_)
 .have h:¬c.ah=14:=h;have e:iE k p c=JH (ic k c (bu k p c.fd 24)):=by rw[iE,rF,if_neg h]
  rw[e];refine⟨_,View.o 3 [0,1,2] [] ?_ (m3 ⟨rfl,rfl,rfl⟩ ⟨eZ rfl,eZ rfl,eZ rfl⟩),hs 24⟩;repeat(first|exact .nil|refine .ap ?_|refine .eq rfl ?_)
theorem sZ(k:Kr)(p:Nat)(hw:KW k p)(c:Cl):ar Tryz.prog 41 [.rv (.one (.ptr 0 0)),.rv (.one (.ptr 1 0))] [xB k p,cB c] (TC (iE k p c).1 p c (iE k p c).2):=
 cm Tryz.func41 l41 (sP k p hw c)
end Kn
def c43:LF:= ⟨85,[.cell true 4 4],(.seq (.ai [qu 4 (.alloc [(qd 0),(qd 0),(qd 0),.aI])]) (.seq (.ai [qm 11 0,qm 12 1,qu 13 (.aW 12),qf 14 2 13,ql 15 14,qu 16 (qc 63 [11,15,(qi 256)]),qm 10 16,qu 17 (.ext 10 0),qu 18 (.ext 10 1),qu 19 (.ext 10 2),qu 5 (.alloc [(qd 0),(qd 0)]),qw (.store 2 5 17),qm 6 18,qm 7 19]) (.seq (.seq (.ai [qm 20 7,qu 21 (.aF .neq 20 (qi 0))]) (.cond 21 (.seq (.ai [qm 22 7,qu 23 (.build [(qd 0),(qd 0),(qd 0),.aI] [(0,1,22)]),qw (.store 4 4 23)]) .ret) .skip)) (.seq (.ai [qm 24 1,qu 25 (.aW 24),qf 26 8 25,ql 27 26,qu 28 (.build [.aI,(.aa (.val (.bool false))),(qd 0),(qd 0)] [(0,1,27)]),qu 8 (.alloc [.aI,(.aa (.val (.bool false))),(qd 0),(qd 0)]),qw (.store 4 8 28)]) (.seq (.seq (.ai [qm 29 1,qu 30 (.aW 29),qf 31 3 30,ql 32 31,qu 33 (.aF .geq 32 (qi 0))]) (.cond 33 (.seq (.seq (.bQ [qm 35 0,qu 36 (.aW 35),qf 37 0 36,qf 38 2 37,ql 39 38,qm 40 0,qu 41 (.aW 40),qf 42 3 41,ql 43 42,qu 44 (.bO 4 39 43),qf 45 3 44,ql 46 45,qm 47 1,qu 48 (.aW 47),qf 49 3 48,ql 50 49,qu 51 (qc 80 [46,50]),qm 34 51,qu 52 (.ext 34 0),qu 53 (.ext 34 1),qf 54 2 8,qw (.store 2 54 52),qm 7 53] [(.cons 0 none (.cons 1 none (.cons 2 none (.cons 3 none (.cons 4 none (.cons 5 none (.cons 6 none (.cons 7 none (.cons 8 none (.cons 9 none (.cons 10 none (.cons 11 none (.cons 12 none (.cons 13 none (.cons 14 none (.cons 15 none (.cons 16 (some []) (.cons 17 none (.cons 18 none (.cons 19 none (.cons 20 none (.cons 21 (some []) (.cons 22 none .nil)))))))))))))))))))))))]) (.seq (.ai [qm 55 7,qu 56 (.aF .neq 55 (qi 0))]) (.cond 56 (.seq (.ai [qm 57 7,qu 58 (.build [(qd 0),(qd 0),(qd 0),.aI] [(0,1,57)]),qw (.store 4 4 58)]) .ret) .skip))) (.ai [qf 59 1 8,qw (.store 1 59 (qb true))])) .skip)) (.cO (.seq (.bQ [qm 61 0,qu 62 (.aW 61),qf 63 0 62,qf 64 0 63,ql 65 64,qm 66 6,qL 67 4 8,qu 68 (qc 81 [65,66,67]),qm 60 68,qu 69 (.ext 60 0),qu 70 (.ext 60 1),qm 9 69,qm 7 70] [(.cons 0 none (.cons 1 none (.cons 2 none (.cons 3 none (.cons 4 none (.cons 5 none (.cons 6 none (.cons 7 (some []) (.cons 8 none (.cons 9 none (.cons 10 none (.cons 11 none (.cons 12 none .nil)))))))))))))]) (.seq (.seq (.ai [qm 71 0,qm 72 9,qm 73 7,qu 74 (qc 76 [71,72,73]),qm 7 74]) (.seq (.ai [qm 75 7,qu 76 (.aF .neq 75 (qi 0))]) (.cond 76 (.seq (.ai [qm 77 7,qu 78 (.build [(qd 0),(qd 0),(qd 0),.aI] [(0,1,77)]),qw (.store 4 4 78)]) .ret) .skip))) (.seq (.ai [qm 79 1,qu 80 (.aW 79),qf 81 8 80,ql 82 81,qu 83 (.len 1 82),qu 84 (.build [(qd 0),(qd 0),(qd 0),.aI] [(1,1,83)]),qw (.store 4 4 84)]) .ret)))))))))⟩
def c44:LF:= ⟨82,[.cell true 4 4],(.seq (.ai [qu 4 (.alloc [(qd 0),(qd 0),(qd 0),.aI])]) (.seq (.ai [qm 15 0,qm 16 1,qu 17 (.aW 16),qf 18 2 17,ql 19 18,qu 20 (qc 63 [15,19,(qi 512)]),qm 14 20,qu 21 (.ext 14 0),qu 22 (.ext 14 1),qu 23 (.ext 14 2),qu 5 (.alloc [(qd 0),(qd 0)]),qw (.store 2 5 21),qm 6 22,qm 7 23]) (.seq (.seq (.ai [qm 24 7,qu 25 (.aF .neq 24 (qi 0))]) (.cond 25 (.seq (.ai [qm 26 7,qu 27 (.build [(qd 0),(qd 0),(qd 0),.aI] [(0,1,26)]),qw (.store 4 4 27)]) .ret) .skip)) (.seq (.ai [qm 29 0,qu 30 (.aW 29),qf 31 0 30,qf 32 0 31,ql 33 32,qm 34 6,qu 35 (qc 82 [33,34]),qm 28 35,qu 36 (.ext 28 0),qu 37 (.ext 28 1),qu 38 (.ext 28 2),qu 9 (.alloc [.aI,(.aa (.val (.bool false))),(qd 0),(qd 0)]),qm 8 36,qw (.store 4 9 37),qm 7 38]) (.seq (.seq (.ai [qm 39 7,qu 40 (.aF .neq 39 (qi 0))]) (.cond 40 (.seq (.ai [qm 41 7,qu 42 (.build [(qd 0),(qd 0),(qd 0),.aI] [(0,1,41)]),qw (.store 4 4 42)]) .ret) .skip)) (.seq (.ai [qu 10 (.aD (qi (-1)))]) (.seq (.seq (.ai [qf 43 1 9,ql 44 43]) (.cond 44 (.seq (.bQ [qm 46 0,qu 47 (.aW 46),qf 48 0 47,qf 49 2 48,ql 50 49,qm 51 0,qu 52 (.aW 51),qf 53 3 52,ql 54 53,qu 55 (.bO 4 50 54),qf 56 3 55,ql 57 56,qf 58 2 9,qL 59 2 58,qu 60 (qc 83 [57,59]),qm 45 60,qu 61 (.ext 45 0),qu 62 (.ext 45 1),qu 63 (.ext 45 2),qm 11 61,qm 12 62,qm 13 63] [(.cons 0 none (.cons 1 none (.cons 2 none (.cons 3 none (.cons 4 none (.cons 5 none (.cons 6 none (.cons 7 none (.cons 8 none (.cons 9 none (.cons 10 none (.cons 11 none (.cons 12 none (.cons 13 none (.cons 14 (some []) (.cons 15 none (.cons 16 none (.cons 17 none (.cons 18 none (.cons 19 none (.cons 20 none (.cons 21 none .nil))))))))))))))))))))))]) (.seq (.seq (.ai [qm 64 13,qu 65 (.aF .neq 64 (qi 0))]) (.cond 65 (.seq (.ai [qm 66 13,qu 67 (.build [(qd 0),(qd 0),(qd 0),.aI] [(0,1,66)]),qw (.store 4 4 67)]) .ret) .skip)) (.seq (.ai [qm 68 0,qm 69 11,qu 70 (qc 70 [68,69,(qi 0)])]) (.ai [qm 71 12,qm 10 71])))) .skip)) (.cO (.seq (.ai [qm 72 0,qm 73 8,qu 74 (qc 76 [72,73,(qi 0)])]) (.seq (.ai [qf 75 0 9,ql 76 75,qu 77 (.len 1 76),qm 78 10,qf 79 0 9,ql 80 79,qu 81 (.build [(qd 0),(qd 0),(qd 0),.aI] [(1,1,77),(2,1,78),(3,1,80)]),qw (.store 4 4 81)]) .ret))))))))))⟩
namespace Kn
def zd(d:List Int)(g:(Int×Int)×Bool):bw:=⟨fM d,g.2,g.1.1,g.1.2⟩
def nB(k:Kr)(c:Cl)(r:List Obj×Int):Kr×An:=(cQ k r.1 r.2,if r.2≠0 then An.no r.2 else⟨0,c.data.length,0,[]⟩)
def wM(k:Kr)(p:Nat)(c:Cl)(bv:Int):Kr×An:=
 if c.gA>=0 then
  (if(rC (aT k.ps p) c.gA).2≠0 then(k,An.no (rC (aT k.ps p) c.gA).2)else nB k c (fe k.l bv (zd c.data ((rC (aT k.ps p) c.gA).1,true))))
 else nB k c (fe k.l bv (zd c.data ((0,0),false)))
def wN(k:Kr)(p:Nat)(c:Cl)(w:(Int×Int)×Int×Int):Kr×An:=if w.2.2≠0 then(k,An.no w.2.2)else wM k p c w.2.1
def k6(k:Kr)(p:Nat)(c:Cl):Kr×An:=wN k p c (bu k p c.fd 256)
theorem l43:bs Tryz.prog Tryz.f43=some c43.er:=by kernel_rfl
def ZL:LC:=bK (bK (bK (bK (bK c43.code))))
def ZM:LC:=pj ZL
theorem Nd(k:Kr)(p:Nat)(hw:KW k p)(c:Cl)(bv:Int)(m:bw)(hm:m.data.length<=4194304):
  aw Tryz.prog 2 ZM (QC c43.lj (nB k c (fe k.l bv m)).1 p c (nB k c (fe k.l bv m)).2)
   ⟨mg 85 [(0,.rv (.one (.ptr 0 0))),(1,.rv (.one (.ptr 1 0))),(4,.rv (.one (.ptr 2 0))),(6,an .i64 bv),(8,.rv (.one (.ptr 3 0)))],[xB k p,cB c,bY,.var (m.enc.map .aa)]⟩:=by
 refine OU k.l hw.mP bv m hm ?_;generalize fe k.l bv m=r;obtain⟨l,e⟩:=r;refine⟨trivial,?_⟩;refine nc k p hw.kr l e 0 rfl ?_;refine br (fun he=>?_) (fun he=>?_)
 .have he:e≠0:=he;rw[nB,if_pos he];exact db (X:=[_,_])
 .have he:¬e≠0:=fun h=>h he
  have hq:(c.data.length:Int)=((fM c.data).length:Int):=by simp[fM]
  rw[nB,if_neg he,hq];exact db (X:=[_,_])
theorem sy(k:Kr)(p:Nat)(hw:KW k p)(c:Cl)(hd:c.data.length<=4194304):
  body Tryz.prog c43 [.rv (.one (.ptr 0 0)),.rv (.one (.ptr 1 0))] [xB k p,cB c] (TC (k6 k p c).1 p c (k6 k p c).2):=by
 have hs:=fun bv m hm=>Nd k p hw c bv m hm
 have lJ:(fM c.data).length<=4194304:=by simpa[fM]using hd
 refine j8 k p hw c.fd 256 0 rfl ?_;have hS:k6 k p c=wN k p c (bu k p c.fd 256):=rfl;rw[hS];clear hS;generalize bu k p c.fd 256=w;obtain⟨⟨o,r⟩,b,e⟩:=w;refine br (fun he=>?_) (fun he=>?_)
 .have he:e≠0:=he;rw[wN,if_pos he];exact db (X:=[_,_])
 have he:e=0:=he;subst he;rw[wN,if_neg aG];refine aB (fun h2=>?_) (fun h2=>?_)
 .have h2:c.gA>=0:=h2;have hg:=d5 hw.hp;rw[<-jd hw.hp]at hg;refine ag hg ?_;have e1:wM k p c b=if(rC (aT k.ps p) c.gA).2≠0 then(k,An.no (rC (aT k.ps p) c.gA).2)else nB k c (fe k.l b (zd c.data ((rC (aT k.ps p) c.gA).1,true))):=by rw[wM,if_pos h2]
  rw[e1];refine Pz (aT k.ps p) c.gA ?_;generalize rC (aT k.ps p) c.gA=g;obtain⟨⟨go,gr⟩,e⟩:=g;refine⟨trivial,trivial,?_⟩;refine br (fun he=>?_) (fun he=>?_)
  .have he:e≠0:=he;rw[if_pos he];exact db (X:=[_,_,_])
  have he:¬e≠0:=fun h=>h he
  rw[if_neg he];refine⟨_,View.o1 5 [0,1,2,4] [] ?_,hs b (zd c.data ((go,gr),true)) lJ⟩
  .exact .pt rfl rfl (.eq rfl (bD _ _)) (.pt rfl rfl (.eq rfl (b7 _)) (.pt rfl rfl (.eq rfl (by simp[bY])) (.pm rfl rfl rfl)))
 .have h2:¬c.gA>=0:=h2;have e1:wM k p c b=nB k c (fe k.l b (zd c.data ((0,0),false))):=by rw[wM,if_neg h2]
  rw[e1];refine⟨_,View.o1 5 [0,1,2,4] [] ?_,hs b (zd c.data ((0,0),false)) lJ⟩
  .exact .pt rfl rfl (.eq rfl (bD _ _)) (.pt rfl rfl (.eq rfl (b7 _)) (.pt rfl rfl (.eq rfl (by simp[bY])) (.pm rfl rfl rfl)))
theorem JJ(k:Kr)(p:Nat)(hw:KW k p)(c:Cl)(hd:c.data.length<=4194304):ar Tryz.prog 43 [.rv (.one (.ptr 0 0)),.rv (.one (.ptr 1 0))] [xB k p,cB c] (TC (k6 k p c).1 p c (k6 k p c).2):=
 cm Tryz.func43 l43 (sy k p hw c hd)
def ud(k:Kr)(l:List Obj)(m:bw)(fd:Int):Kr×An:=(cQ k l 0,⟨0,m.data.length,fd,m.data⟩)
def ze(k:Kr)(p:Nat)(r:List Obj×bw×Int):Kr×An:=
 if r.2.2≠0 then(k,An.no r.2.2)
 else if r.2.1.has=true then
  (if(fL (aT k.ps p) r.2.1.eT r.2.1.cf).2.2≠0 then(k,An.no (fL (aT k.ps p) r.2.1.eT r.2.1.cf).2.2)
   else ud (fY k p (fL (aT k.ps p) r.2.1.eT r.2.1.cf).1 0) r.1 r.2.1 (fL (aT k.ps p) r.2.1.eT r.2.1.cf).2.1)
 else ud k r.1 r.2.1 (-1)
def wO(k:Kr)(p:Nat)(w:(Int×Int)×Int×Int):Kr×An:=if w.2.2≠0 then(k,An.no w.2.2)else ze k p (fw k.l w.2.1)
def k7(k:Kr)(p:Nat)(c:Cl):Kr×An:=wO k p (bu k p c.fd 512)
theorem rG{l:List fH}{o r:Int}(hl:l.length<=10):(fL l o r).1.length<=10:=by
 unfold fL Tb.iz;split
 .simp
 .split
  .simpa using hl
  .split
   .simp
   .rename_i h;simp only[aad,aa3,aax,aaT]at h⊢;omega
theorem Nf{k:Kr}(hk:dE k.l k.ops k.ps){p:Nat}(hp:p<k.ps.length){l:List fH}(hl:l.length<=10):dE k.l k.ops (dM k.ps p l):=by
 have e:dM k.ps p l=k.ps.set p {k.ps[p]with aU:=l}:=by rw[dM,aab hp]
 rw[e];refine⟨hk.sm,hk.ll,hk.lo,by simpa using hk.lp,fun x hx=>?_,fun h=>hk.ne (by simpa using h)⟩
 rcases aaI hx with hx|rfl
 .exact hk.sl x hx
 .exact hl
theorem l44:bs Tryz.prog Tryz.f44=some c44.er:=by kernel_rfl
def ZN:LC:=bK (bK (bK (bK (bK (bK (bK c44.code))))))
def ZO:LC:=pj ZN
theorem C3(k:Kr)(p:Nat)(hk:dE k.l k.ops k.ps)(c:Cl)(l:List Obj)(m:bw)(fd:Int):
  aw Tryz.prog 2 ZO (QC c44.lj (ud k l m fd).1 p c (ud k l m fd).2)
   ⟨mg 82 [(0,.rv (.one (.ptr 0 0))),(1,.rv (.one (.ptr 1 0))),(4,.rv (.one (.ptr 2 0))),(8,cg l),(9,.rv (.one (.ptr 3 0))),(10,an .i64 fd)],[xB k p,cB c,bY,.var (m.enc.map .aa)]⟩:=by
 refine nc k p hk l 0 0 rfl ?_;exact FJ (k:=cQ k l 0) (a:=⟨0,m.data.length,fd,m.data⟩) (X:=[_,_])
theorem sB(k:Kr)(p:Nat)(hw:KW k p)(c:Cl):
  body Tryz.prog c44 [.rv (.one (.ptr 0 0)),.rv (.one (.ptr 1 0))] [xB k p,cB c] (TC (k7 k p c).1 p c (k7 k p c).2):=by
 refine j8 k p hw c.fd 512 0 rfl ?_;have hS:k7 k p c=wO k p (bu k p c.fd 512):=rfl;rw[hS];clear hS;generalize bu k p c.fd 512=w;obtain⟨⟨o,r⟩,b,e⟩:=w;refine br (fun he=>?_) (fun he=>?_)
 .have he:e≠0:=he;rw[wO,if_pos he];exact db (X:=[_,_])
 have he:e=0:=he;subst he;rw[wO,if_neg aG];refine OV k.l hw.mP b ?_;generalize fw k.l b=R;obtain⟨l,m,e⟩:=R;refine br (fun he=>?_) (fun he=>?_)
 .have he:e≠0:=he;rw[ze,if_pos he];exact db (X:=[_,_,_])
 have he:e=0:=he;subst he;have hR:ze k p (l,m,0)=if m.has=true then
   (if(fL (aT k.ps p) m.eT m.cf).2.2≠0 then(k,An.no (fL (aT k.ps p) m.eT m.cf).2.2)
    else ud (fY k p (fL (aT k.ps p) m.eT m.cf).1 0) l m (fL (aT k.ps p) m.eT m.cf).2.1)
  else ud k l m (-1):=by rw[ze,if_neg aG]
 rw[hR];clear hR;obtain⟨data,has,eT,cf⟩:=m;cases has with
 |false=>
  rw[if_neg aG];refine⟨_,View.o1 5 [0,1,2,4] [] ?_,C3 k p hw.kr c l ⟨data,false,eT,cf⟩ (-1)⟩
  .exact .pt rfl rfl (.eq rfl (bD _ _)) (.pt rfl rfl (.eq rfl (b7 _)) (.pt rfl rfl (.eq rfl (by simp[bY])) (.pm rfl rfl rfl)))
 |true=>
  rw[if_pos rfl];have hg:=d5 hw.hp;rw[<-jd hw.hp]at hg;have hl:(aT k.ps p).length<=10:=by rw[jd hw.hp];exact hw.kr.sl _ (aau hw.hp)
  refine ag hg ?_;have gE:= @rG (aT k.ps p) eT cf hl;refine Am (aT k.ps p) om eT cf ?_;have hkr:= @Nf k hw.kr p hw.hp;generalize fL (aT k.ps p) eT cf=T at gE⊢;obtain⟨t,fd,e⟩:=T;refine⟨trivial,?_⟩;refine br (fun he=>?_) (fun he=>?_)
  .have he:e≠0:=he;rw[if_pos he];exact db (X:=[_,_,_])
  have he:e=0:=he;subst he;rw[if_neg aG];refine CU k p hw.kr hw.hp t 0 0 rfl ?_;refine⟨_,View.o1 5 [0,1,2,4] [] ?_,C3 (fY k p t 0) p (hkr gE) c l ⟨data,true,eT,cf⟩ fd⟩
  .exact .pt rfl rfl (.eq rfl (bD _ _)) (.pt rfl rfl (.eq rfl (b7 _)) (.pt rfl rfl (.eq rfl (by simp[bY])) (.pm rfl rfl rfl)))
theorem JK(k:Kr)(p:Nat)(hw:KW k p)(c:Cl):ar Tryz.prog 44 [.rv (.one (.ptr 0 0)),.rv (.one (.ptr 1 0))] [xB k p,cB c] (TC (k7 k p c).1 p c (k7 k p c).2):=
 cm Tryz.func44 l44 (sB k p hw c)
end Kn
def c42:LF:= ⟨69,[.cell true 4 2],(.seq (.ai [qu 2 (.alloc [(qd 0),(qd 0),(qd 0),.aI])]) (.seq (.ai [qm 10 0,qu 11 (.aW 10),qf 12 0 11,qf 13 0 12,ql 14 13,qu 15 (qc 78 [14]),qm 9 15,qu 16 (.ext 9 0),qu 17 (.ext 9 1),qu 18 (.ext 9 2),qu 4 (.alloc [(qd 0),(qd 0)]),qm 3 16,qw (.store 2 4 17),qm 5 18]) (.seq (.seq (.ai [qm 19 5,qu 20 (.aF .neq 19 (qi 0))]) (.cond 20 (.seq (.ai [qm 21 5,qu 22 (.build [(qd 0),(qd 0),(qd 0),.aI] [(0,1,21)]),qw (.store 4 2 22)]) .ret) .skip)) (.seq (.ai [qm 23 0,qu 24 (.aW 23),qf 25 0 24,qL 26 3 25,qu 27 (qc 66 [26]),qu 6 (.alloc [.aI,.aI,.aI]),qw (.store 3 6 27)]) (.seq (.ai [qm 28 3,qf 29 0 6,qw (.store 1 29 28)]) (.cO (.seq (.bQ [qL 31 3 6,qm 32 0,qu 33 (.aW 32),qf 34 3 33,ql 35 34,qu 36 (.pA 2 1 4 (qi 0)),ql 37 36,qu 38 (qc 79 [31,35,37,(qi 896)]),qm 30 38,qu 39 (.ext 30 0),qu 40 (.ext 30 1),qu 41 (.ext 30 2),qw (.store 3 6 39),qm 7 40,qm 5 41] [(.cons 0 none (.cons 1 none (.cons 2 none (.cons 3 none (.cons 4 none (.cons 5 none (.cons 6 none (.cons 7 (some []) (.cons 8 none (.cons 9 none (.cons 10 none (.cons 11 none (.cons 12 (some []) (.cons 13 none (.cons 14 none .nil)))))))))))))))]) (.seq (.seq (.ai [qm 42 5,qu 43 (.aF .neq 42 (qi 0))]) (.cond 43 (.seq (.ai [qm 44 5,qu 45 (.build [(qd 0),(qd 0),(qd 0),.aI] [(0,1,44)]),qw (.store 4 2 45)]) .ret) .skip)) (.seq (.bQ [qL 47 3 6,qm 48 0,qu 49 (.aW 48),qf 50 3 49,ql 51 50,qu 52 (.pA 2 1 4 (qi 1)),ql 53 52,qu 54 (qc 79 [47,51,53,(qi 896)]),qm 46 54,qu 55 (.ext 46 0),qu 56 (.ext 46 1),qu 57 (.ext 46 2),qw (.store 3 6 55),qm 8 56,qm 5 57] [(.cons 0 none (.cons 1 none (.cons 2 none (.cons 3 none (.cons 4 none (.cons 5 none (.cons 6 none (.cons 7 (some []) (.cons 8 none (.cons 9 none (.cons 10 none (.cons 11 none (.cons 12 (some []) (.cons 13 none (.cons 14 none .nil)))))))))))))))]) (.seq (.seq (.ai [qm 58 5,qu 59 (.aF .neq 58 (qi 0))]) (.cond 59 (.seq (.ai [qm 60 5,qu 61 (.build [(qd 0),(qd 0),(qd 0),.aI] [(0,1,60)]),qw (.store 4 2 61)]) .ret) .skip)) (.seq (.ai [qm 62 0,qL 63 3 6,qu 64 (.aW 62),qf 65 0 64,qw (.store 3 65 63)]) (.seq (.ai [qm 66 7,qm 67 8,qu 68 (.build [(qd 0),(qd 0),(qd 0),.aI] [(1,1,66),(2,1,67)]),qw (.store 4 2 68)]) .ret))))))))))))⟩
namespace Kn
def ue(p:Nat)(a:Kr×Int×Int)(e1:Int)(k:Kr):Kr×An:=
 if a.2.2≠0 then(k,An.no a.2.2)
 else if(aM a.1 p e1 896).2.2≠0 then(k,An.no (aM a.1 p e1 896).2.2)
 else((aM a.1 p e1 896).1,⟨0,a.2.1,(aM a.1 p e1 896).2.1,[]⟩)
def zf(k:Kr)(p:Nat)(P:List Obj×(Int×Int)×Int):Kr×An:=
 if P.2.2≠0 then(k,An.no P.2.2)else ue p (aM ⟨P.1,k.ops,k.ps⟩ p P.2.1.1 896) P.2.1.2 k
def lQ(k:Kr)(p:Nat):Kr×An:=zf k p (fp k.l)
structure SP(k:Kr)(p:Nat)(P:List Obj×(Int×Int)×Int):Prop where
 a:P.2.2=0->dE P.1 k.ops k.ps
 b:P.2.2=0->(aM ⟨P.1,k.ops,k.ps⟩ p P.2.1.1 896).2.2=0->dE (aM ⟨P.1,k.ops,k.ps⟩ p P.2.1.1 896).1.l (aM ⟨P.1,k.ops,k.ps⟩ p P.2.1.1 896).1.ops (aM ⟨P.1,k.ops,k.ps⟩ p P.2.1.1 896).1.ps/\p<(aM ⟨P.1,k.ops,k.ps⟩ p P.2.1.1 896).1.ps.length
theorem l42:bs Tryz.prog Tryz.f42=some c42.er:=by kernel_rfl
def ZP:LC:=bK (bK (bK (bK (bK c42.code))))
def ZQ:LC:=pj ZP
def kB(k:Kr):Bk:= .var ((kC k.l k.ops k.ps).map .aa)
theorem cR(k:Kr):kB k≠.bh:=by intro h;cases h
def TP(k:Kr)(p:Nat)(a:An)(r:CV)(m:Mem):Prop:=∃r' m',View 1 ⟨[r],m⟩ ⟨[r'],m'⟩/\r'=a.cv/\m'=[xB k p]
theorem HD{k:Kr}{p:Nat}{X:Mem}{e n x:Int}:TP k p ⟨e,n,x,[]⟩ (.rv (.agg [.aa (.val (.int .i64 e)),.aa (.val (.int .i64 n)),.aa (.val (.int .i64 x)),.aI])) (xB k p::X):=
 ⟨_,_,View.of (X.length+1) [0] [] rfl rfl rfl rfl rfl (by simp[fm,Nat.blt]) (.put M6 .nil) (.pt rfl rfl (.eq rfl (bD _ _)) (.nil _)),rfl,rfl⟩
theorem Ng(k:Kr)(p:Nat)(k1:Kr)(hp:p<k1.ps.length)(hk:dE k1.l k1.ops k1.ps)(e0 e1:Int)(hb:(aM k1 p e0 896).2.2=0->dE (aM k1 p e0 896).1.l (aM k1 p e0 896).1.ops (aM k1 p e0 896).1.ps/\p<(aM k1 p e0 896).1.ps.length):
  aw Tryz.prog 1 ZQ (nG Tryz.prog c42.lj (TP (ue p (aM k1 p e0 896) e1 k).1 p (ue p (aM k1 p e0 896) e1 k).2))
   ⟨mg 69 [(0,.rv (.one (.ptr 0 0))),(2,.rv (.one (.ptr 1 0))),(4,.rv (.one (.ptr 2 0))),(6,.rv (.one (.ptr 3 0)))],[xB k p,bY,.var [.aa (.val (.int .i64 e0)),.aa (.val (.int .i64 e1))],kB k1]⟩:=by
 refine sN k1 hk p hp e0 896 ?_;generalize aM k1 p e0 896=A at hb⊢;obtain⟨k2,fd,e⟩:=A;refine⟨trivial,trivial,?_⟩;refine br (fun he=>?_) (fun he=>?_)
 .have he:e≠0:=he;rw[ue,if_pos he];exact HD (X:=[_,_,_])
 have he:e=0:=he;subst he;obtain⟨pK,Ks⟩:=hb rfl;have e2:ue p (k2,fd,0) e1 k=if(aM k2 p e1 896).2.2≠0 then(k,An.no (aM k2 p e1 896).2.2)else((aM k2 p e1 896).1,⟨0,fd,(aM k2 p e1 896).2.1,[]⟩):=by rw[ue,if_neg aG]
 rw[e2];refine sN k2 pK p Ks e1 896 ?_;generalize aM k2 p e1 896=B;obtain⟨k3,gA,e⟩:=B;refine⟨trivial,trivial,?_⟩;refine br (fun he=>?_) (fun he=>?_)
 .have he:e≠0:=he;rw[if_pos he];exact HD (X:=[_,_,_])
 have he:¬e≠0:=fun h=>h he
 rw[if_neg he];exact HD (k:=k3) (X:=[_,_,_])
theorem FU(k:Kr)(p:Nat)(hw:KW k p)(hi:SP k p (fp k.l)):
  body Tryz.prog c42 [.rv (.one (.ptr 0 0))] [xB k p] (TP (lQ k p).1 p (lQ k p).2):=by
 refine OT k.l hw.mP ?_;have hS:lQ k p=zf k p (fp k.l):=rfl;rw[hS];clear hS;generalize fp k.l=P at hi⊢;obtain⟨l,⟨e0,e1⟩,e⟩:=P;refine br (fun he=>?_) (fun he=>?_)
 .have he:e≠0:=he;rw[zf,if_pos he];exact HD (X:=[_,_])
 have he:e=0:=he;subst he;rw[zf,if_neg aG];refine ix k.l k.ops k.ps hw.mP hw.kr.lo hw.kr.lp hw.kr.sl hw.kr.ne ?_;refine⟨_,View.o1 7 [0,1,2,6] [3,4,5] ?_,Ng k p ⟨l,k.ops,k.ps⟩ hw.hp (hi.a rfl) e0 e1 (hi.b rfl)⟩
 .exact .pt rfl rfl (.eq rfl (bD _ _)) (.pt rfl rfl (.eq rfl (by simp[bY])) (.pe rfl rfl rfl (.pt rfl rfl (e7.var (.cons (.aQ (.aa _)) (.cons (.fv (ib rfl rfl)) (.cons (.fv (ib rfl rfl)) .nil)))) (.nil _))))
theorem Nh(k:Kr)(p:Nat)(hw:KW k p)(hi:SP k p (fp k.l)){m:Mem}(id:Nat)(hb:df m id=some (xB k p)){K:CV->Mem->Prop}(hK:K (lQ k p).2.cv (ba m id (xB (lQ k p).1 p))):
  ar Tryz.prog 42 [.rv (.one (.ptr id 0))] m K:=
 Hy (args:=[]) (fun _=>rfl) (fun _=>rfl)
  (bN (cm Tryz.func42 l42 (FU k p hw hi)) fun r m1⟨r',m',hv,hq⟩=>⟨r',m',hv,hq⟩) id hb hK
end Kn
end Go.Proofs.YtojhmadmlnfpcaaGreatDoor
