/- Part 34 of 35. -/
import Derived.Test.YtllkfpggoigbaaaGreatDoorS15
import Derived.Test.YtllkfpggoigbaaaGreatDoorS19
import Derived.Test.YtllkfpggoigbaaaGreatDoorS31
import Derived.Test.YtllkfpggoigbaaaGreatDoorS33
set_option linter.unusedVariables false
set_option linter.unusedSimpArgs false
set_option linter.unnecessarySimpa false
set_option maxRecDepth 100000
set_option maxHeartbeats 0
namespace Go.Proofs.YtllkfpggoigbaaaGreatDoor
open Proofs.Tryz
open Go.AM Go.ChangeShapes Go.WideShapes Go.ChangeAt Go.RowKit
def abv(l:List Obj)(ops:List aT)(ps:List aL)(Q:List Int)(l':List Obj)(kW:List aT):Mem:=
 [kB l ops ps,fY,.aE,.mp (Q.map mI),Bt,ua (.row 6 9 0 none) (.row 7 2 0 none) .bt,.row 9 (aa (l'.map Obj.enc)),.row 2 (aa (kW.map aT.enc))]
def XP(l':List Obj)(kW:List aT)(oy:List aL)(bR:Bool)(K:Ex->St->Prop):Prop:=
 ∀e m,View 0 ⟨e,m⟩ ⟨i5 284 [(1,p0 0),(2,p0 1),(3,aq bR)],[ua (.row 2 9 0 none) (.row 3 2 0 none) (.row 4 4 0 none),fY,.row 9 (aa (l'.map Obj.enc)),.row 2 (aa (kW.map aT.enc)),.row 4 (aa (oy.map aL.enc))]⟩->K .normal ⟨e,m⟩
theorem afJ(l:List Obj)(ops:List aT)(ps:List aL)(ho:ops.length<=4194304)(eF:ps.length<=4194304)(Q:List Int)(l':List Obj)(Du:l'.length<=4194304)(K:Ex->St->Prop)(hK:XP l' (qn Q ops) (z7 l' ps) (C9 l' ps ps.length) K):
  aw prog 0 afF (ow (aw prog 0 XN) K) ⟨i5 284 [(1,p0 0),(2,p0 1),(3,aq false),(5,p0 4),(14,p0 5)],abv l ops ps Q l' []⟩:=by
 refine ar (λi=>i<=ops.length) [1,2,3,5,14,122,123] (λi=>[(124,al .i64 (i:Nat))]) (λi=>abv l ops ps Q l' ((qn Q ops).take i)) (λi=>ops.length-i) 0 (WG _) ?_ (λi hi=>?_)
 .refine View.o1 8 [0,1,2,3,4,5,6,7] [] ?_
  .exact .pt rfl rfl (.eq rfl (by simp[kB])) (.pt rfl rfl (.eq rfl (by simp[fY])) (.aE (.pt rfl rfl (.eq (ff _) aD) (.pt rfl rfl (.eq rfl (by simp[Bt])) (.pt rfl rfl (.eq rfl (by simp[ua])) (.pr rfl rfl rfl (.pn rfl rfl rfl)))))))
 have hi:i<=ops.length:=hi;refine am (λh=>?_) (λh=>?_)
 .have ax:i<ops.length:=by have h:(i:Int)<((ops.map aT.enc).length:Int):=h;rw[O9]at h;omega
  have hp:=wy ax;have hg:=mZ ax;generalize ops[i]=o at hp hg;have hT:(qn Q ops).take (i+1)=(qn Q ops).take i++ [Is Q i o]:=qq hp;obtain⟨obj,di⟩:=o;refine af hg ?_;have mU:((aa (((qn Q ops).take i).map aT.enc)).length+1)*16<=140737488355328:=by rw[aJ,O9,aa8];omega
  refine af (J9 (i:Int) Q) ?_;cases hq:o9 Q (i:Int)with
  |false=>
   have e1:Is Q i ⟨obj,di⟩=⟨-1,0⟩:=by rw[Is,hq];rfl
   refine⟨mU,i+1,ax,(show ops.length-(i+1)<ops.length-i by omega),View.o2 11 [0,1,2,3,4,5,6,10] [] ?_⟩
   .refine .pt rfl rfl (.eq rfl (by simp[kB])) (.pt rfl rfl (.eq rfl (by simp[fY])) (.aE (.pt rfl rfl (.eq (ff _) aD) (.pt rfl rfl (.eq rfl (by simp[Bt])) (.pt rfl rfl (.eq rfl (by simp[ua])) (.pr rfl rfl rfl (.pt rfl rfl (.bn ?_) (.nil _))))))))
    rw[hT,e1,abM,bZ];rfl
  |true=>
   have e1:Is Q i ⟨obj,di⟩=⟨obj,di⟩:=by rw[Is,hq];rfl
   refine⟨mU,i+1,ax,(show ops.length-(i+1)<ops.length-i by omega),View.o2 11 [0,1,2,3,4,5,6,10] [] ?_⟩
   .refine .pt rfl rfl (.eq rfl (by simp[kB])) (.pt rfl rfl (.eq rfl (by simp[fY])) (.aE (.pt rfl rfl (.eq (ff _) aD) (.pt rfl rfl (.eq rfl (by simp[Bt])) (.pt rfl rfl (.eq rfl (by simp[ua])) (.pr rfl rfl rfl (.pt rfl rfl (.bn ?_) (.nil _))))))))
    rw[hT,e1,abM,bZ];rfl
 .have iw:i=ops.length:=by have h:¬(i:Int)<((ops.map aT.enc).length:Int):=h;rw[O9]at h;omega
  subst iw;have hT:(qn Q ops).take ops.length=qn Q ops:=ach (by simp[qn])
  refine⟨_,View.trans (View.R7 5 2 4 8 rfl rfl rfl rfl) (View.o1 9 [0,1,2,3,4,5,6,7,8] [] ?_),afI l ops ps eF l' Du (qn Q ops) K hK⟩
  .exact .pt rfl rfl (.eq rfl (by simp[kB])) (.pt rfl rfl (.eq rfl (by simp[fY])) (.aE (.aE (.aE (.pt rfl rfl (.eq rfl (by simp[ua])) (.pr rfl rfl rfl (.pt rfl rfl (.bn (by rw[hT])) (.pn rfl rfl rfl))))))))
def M90(l:List Obj)(ops:List aT)(ps:List aL)(L:List Nat)(Q:List Int)(l':List Obj):Mem:=
 [kB l ops ps,fY,.mp (L.map fE),.mp (Q.map mI),Bt,ua (.row 6 9 0 none) .bt .bt,.row 9 (aa (l'.map Obj.enc))]
theorem QR{Y:Nat->Nat}{m:Mem}{Z:Nat->Prop}{id:Nat}(R:List Obj){es:List (List CC)}(h:es=aa (R.map Obj.enc)):oC Y m Z id (.row 9 (es++ [Jd])) (.row 9 (aa ((R++ [dS]).map Obj.enc))):=by
 subst h;rw[abM,bZ];refine .uy (dk _ _) rfl λj c c' h1 h2=>?_
 match j,h1,h2 with
 |0,h1,h2=>cases h1;cases h2;exact .aN (.ai _)
 |1,h1,h2=>cases h1;cases h2;exact .dG (.bt 1)
 |2,h1,h2=>cases h1;cases h2;exact .dG (.bt 2)
 |3,h1,h2=>cases h1;cases h2;exact .aN (.ai _)
 |4,h1,h2=>cases h1;cases h2;exact .aN (.ai _)
 |5,h1,h2=>cases h1;cases h2;exact .dG (.bt 4)
 |6,h1,h2=>cases h1;cases h2;exact .aN (.ai _)
 |7,h1,h2=>cases h1;cases h2;exact .aN (.ai _)
 |8,h1,h2=>cases h1;cases h2;exact .aN (.ai _)
 |n+9,h1,h2=>simp[Jd]at h1
theorem t90(l:List Obj)(ops:List aT)(ps:List aL)(hl:l.length<=4194304)(ho:ops.length<=4194304)(eF:ps.length<=4194304)(L:List Nat)(Q:List Int)(K:Ex->St->Prop)(hK:XP (q8 L l) (qn Q ops) (z7 (q8 L l) ps) (C9 (q8 L l) ps ps.length) K):
  aw prog 0 X90 (ow (aw prog 0 XM) K) ⟨i5 284 [(1,p0 0),(2,p0 1),(3,aq false),(4,.rv (.one (.map 2))),(5,p0 4),(14,p0 5)],M90 l ops ps L Q []⟩:=by
 have mv:∀(i:Nat)(x:List CC)(o':Obj),x=o'.enc.map .ai->(q8 L l).take (i+1)=(q8 L l).take i++ [o']->aa (((q8 L l).take i).map Obj.enc)++ [x]=aa (((q8 L l).take (i+1)).map Obj.enc):=by intro i x o' h1 h2;rw[h2,abM,bZ,h1];rfl
 refine ar (λi=>i<=l.length) [1,2,3,4,5,14,91,92] (λi=>[(93,al .i64 (i:Nat))]) (λi=>M90 l ops ps L Q ((q8 L l).take i)) (λi=>l.length-i) 0 (WG _) ?_ (λi hi=>?_)
 .refine View.o1 7 [0,1,2,3,4,5,6] [] ?_
  .exact .pt rfl rfl (.eq rfl (by simp[kB])) (.pt rfl rfl (.eq rfl (by simp[fY])) (.pt rfl rfl (.eq (dg _) aD) (.pt rfl rfl (.eq (ff _) aD) (.pt rfl rfl (.eq rfl (by simp[Bt])) (.pt rfl rfl (.eq rfl (by simp[ua])) (.pn rfl rfl rfl))))))
 have hi:i<=l.length:=hi;refine am (λh=>?_) (λh=>?_)
 .have ax:i<l.length:=by have h:(i:Int)<((l.map Obj.enc).length:Int):=h;rw[O9]at h;omega
  have hp:=wy ax;have hg:=mW ax;generalize l[i]=o at hp hg;have hT:(q8 L l).take (i+1)=(q8 L l).take i++ [Bu L i o]:=qq hp;obtain⟨ah,data,ag,target,aG,aj,aQ,ak,up⟩:=o;refine af hg ?_;have mU:((aa (((q8 L l).take i).map Obj.enc)).length+1)*128<=140737488355328:=by rw[aJ,O9,aa8];omega
  refine af (qI (i:Int) L) ?_;cases hn:m4 L (i:Int)with
  |false=>
   have e1:Bu L i ⟨ah,data,ag,target,aG,aj,aQ,ak,up⟩=dS:=by rw[Bu,if_pos hn]
   rw[e1]at hT;refine⟨mU,i+1,ax,(show l.length-(i+1)<l.length-i by omega),View.o2 10 [0,1,2,3,4,5,9] [] ?_⟩
   .refine .pt rfl rfl (.eq rfl (by simp[kB])) (.pt rfl rfl (.eq rfl (by simp[fY])) (.pt rfl rfl (.eq (dg _) aD) (.pt rfl rfl (.eq (ff _) aD) (.pt rfl rfl (.eq rfl (by simp[Bt])) (.pt rfl rfl (.eq rfl (by simp[ua])) (.pt rfl rfl ?_ (.nil _)))))))
    rw[hT];exact QR _ rfl
  |true=>
   have gu:∀(p':Int),Bu L i ⟨ah,data,ag,target,aG,aj,aQ,ak,up⟩=⟨ah,data,ag,target,p',aj,aQ,ak,up⟩->aa (((q8 L l).take i).map Obj.enc)++ [[CC.ai (.val (.int .i64 ah)),.ai (.sl 1 data),.ai (.sl 2 ag),.ai (.val (.string target)),.ai (.val (.int .i64 p')),.ai (.sl 4 (aj.map cy.enc)),.ai (.val (.int .i64 aQ)),.ai (.val (.int .i64 ak)),.ai (.val (.int .i64 up))]]=aa (((q8 L l).take (i+1)).map Obj.enc):=by intro p' e;rw[e]at hT;exact mv i _ _ rfl hT
   refine ba (λhk=>?_) (λhk=>?_)
   .refine af (qI aG L) ?_;cases vy:m4 L aG with
    |false=>
     have e1:Bu L i ⟨ah,data,ag,target,aG,aj,aQ,ak,up⟩=⟨ah,data,ag,target,-1,aj,aQ,ak,up⟩:=by
      rw[Bu,if_neg (by rw[hn];simp),if_pos ⟨hk,vy⟩]
     refine⟨mU,i+1,ax,(show l.length-(i+1)<l.length-i by omega),View.o2 10 [0,1,2,3,4,5,9] [] ?_⟩
     .exact .pt rfl rfl (.eq rfl (by simp[kB])) (.pt rfl rfl (.eq rfl (by simp[fY])) (.pt rfl rfl (.eq (dg _) aD) (.pt rfl rfl (.eq (ff _) aD) (.pt rfl rfl (.eq rfl (by simp[Bt])) (.pt rfl rfl (.eq rfl (by simp[ua])) (.pt rfl rfl (.bn (gu (-1) e1)) (.nil _)))))))
    |true=>
     have e1:Bu L i ⟨ah,data,ag,target,aG,aj,aQ,ak,up⟩=⟨ah,data,ag,target,aG,aj,aQ,ak,up⟩:=by
      rw[Bu,if_neg (by rw[hn];simp),if_neg (λh=>by rw[show m4 L aG=false from h.2]at vy;cases vy)]
     refine⟨mU,i+1,ax,(show l.length-(i+1)<l.length-i by omega),View.o2 10 [0,1,2,3,4,5,9] [] ?_⟩
     .exact .pt rfl rfl (.eq rfl (by simp[kB])) (.pt rfl rfl (.eq rfl (by simp[fY])) (.pt rfl rfl (.eq (dg _) aD) (.pt rfl rfl (.eq (ff _) aD) (.pt rfl rfl (.eq rfl (by simp[Bt])) (.pt rfl rfl (.eq rfl (by simp[ua])) (.pt rfl rfl (.bn (gu aG e1)) (.nil _)))))))
   .have e1:Bu L i ⟨ah,data,ag,target,aG,aj,aQ,ak,up⟩=⟨ah,data,ag,target,aG,aj,aQ,ak,up⟩:=by
     rw[Bu,if_neg (by rw[hn];simp),if_neg (λh=>hk h.1)]
    refine⟨mU,i+1,ax,(show l.length-(i+1)<l.length-i by omega),View.o2 10 [0,1,2,3,4,5,9] [] ?_⟩
    .exact .pt rfl rfl (.eq rfl (by simp[kB])) (.pt rfl rfl (.eq rfl (by simp[fY])) (.pt rfl rfl (.eq (dg _) aD) (.pt rfl rfl (.eq (ff _) aD) (.pt rfl rfl (.eq rfl (by simp[Bt])) (.pt rfl rfl (.eq rfl (by simp[ua])) (.pt rfl rfl (.bn (gu aG e1)) (.nil _)))))))
 .have iw:i=l.length:=by have h:¬(i:Int)<((l.map Obj.enc).length:Int):=h;rw[O9]at h;omega
  subst iw;have hT:(q8 L l).take l.length=q8 L l:=ach (by simp[q8])
  refine⟨_,View.trans (View.R7 5 1 2 7 rfl rfl rfl rfl) (View.o1 8 [0,1,2,3,4,5,6,7] [] ?_),afJ l ops ps ho eF Q (q8 L l) (by simpa[q8]using hl) K hK⟩
  .exact .pt rfl rfl (.eq rfl (by simp[kB])) (.pt rfl rfl (.eq rfl (by simp[fY])) (.aE (.pt rfl rfl (.eq (ff _) aD) (.pt rfl rfl (.eq rfl (by simp[Bt])) (.pt rfl rfl (.eq rfl (by simp[ua])) (.pt rfl rfl (.bn (by rw[hT])) (.pn rfl rfl rfl)))))))
def T1(ps:List aL)(p j:Nat)(z:Int):Prop:=∃(i:Nat)(pr:aL)(k:Nat)(s:dJ),ps[i]? =some pr/\pr.aF=true/\pr.an[k]? =some s/\s.has=true/\(i<p\/i=p/\k<j)/\z=s.b8
def T2(l:List Obj)(ps:List aL)(L:List Nat)(i k:Nat)(z:Int):Prop:=
 T1 ps ps.length 0 z\/∃(i':Nat)(o:Obj)(k':Nat)(q:cy),i'∈L/\l[i']? =some o/\o.aj[k']? =some q/\q.has=true/\(i'<i\/i'=i/\k'<k)/\z=q.b8
def QI(S:Int->Prop)(Q:List Int):Prop:=∀z,o9 Q z=true↔S z
theorem QI.add{S S':Int->Prop}{Q:List Int}{x:Int}(h:QI S Q)(hS:∀z,S' z↔(S z\/z=x)):QI S' (pk x Q):=λz=>by rw[T5,hS z,h z]
theorem QI.cO{S S':Int->Prop}{Q:List Int}(h:QI S Q)(hS:∀z,S' z↔S z):QI S' Q:=λz=>by rw[hS z,h z]
theorem T6{ps:List aL}{z:Int}:¬T1 ps 0 0 z:=by rintro⟨i,pr,k,s,_,_,_,_,h,_⟩;omega
theorem T7{ps:List aL}{p j:Nat}{pr:aL}{s:dJ}(hp:ps[p]? =some pr)(hs:pr.an[j]? =some s)(y:Int):T1 ps p (j+1) y↔(T1 ps p j y\/(pr.aF=true/\s.has=true/\y=s.b8)):=by
 constructor
 .rintro⟨i,QL,k,s',h1,h2,h3,h4,h5,h6⟩;by_cases hk:i=p/\k=j
  .obtain⟨rfl,rfl⟩:=hk;rw[hp]at h1;cases h1;rw[hs]at h3;cases h3;exact .inr ⟨h2,h4,h6⟩
  .exact .inl ⟨i,QL,k,s',h1,h2,h3,h4,om,h6⟩
 .rintro(⟨i,QL,k,s',h1,h2,h3,h4,h5,h6⟩|⟨h1,h2,h3⟩)
  .exact⟨i,QL,k,s',h1,h2,h3,h4,om,h6⟩
  .exact⟨p,pr,j,s,hp,h1,hs,h2,.inr ⟨rfl,om⟩,h3⟩
theorem T8{ps:List aL}{p:Nat}{pr:aL}(hp:ps[p]? =some pr)(y:Int):T1 ps (p+1) 0 y↔T1 ps p pr.an.length y:=by
 constructor
 .rintro⟨i,QL,k,s',h1,h2,h3,h4,h5,h6⟩;refine⟨i,QL,k,s',h1,h2,h3,h4,?_,h6⟩;by_cases hi:i=p
  .subst hi;rw[hp]at h1;cases h1;exact .inr ⟨rfl,(Lw.1 h3).1⟩
  .exact .inl om
 .rintro⟨i,QL,k,s',h1,h2,h3,h4,h5,h6⟩;exact⟨i,QL,k,s',h1,h2,h3,h4,om,h6⟩
theorem T9{l:List Obj}{ps:List aL}{L:List Nat}(z:Int):T2 l ps L 0 0 z↔T1 ps ps.length 0 z:=by
 constructor
 .rintro(h|⟨i,o,k,q,_,_,_,_,h,_⟩)
  .exact h
  .omega
 .exact .inl
theorem Ua{l:List Obj}{ps:List aL}{L:List Nat}{i k:Nat}{o:Obj}{q:cy}(ho:l[i]? =some o)(hq:o.aj[k]? =some q)(z:Int):T2 l ps L i (k+1) z↔(T2 l ps L i k z\/(i∈L/\q.has=true/\z=q.b8)):=by
 constructor
 .rintro(h|⟨i',o',k',q',h1,h2,h3,h4,h5,h6⟩)
  .exact .inl (.inl h)
  .by_cases hk:i'=i/\k'=k
   .obtain⟨rfl,rfl⟩:=hk;rw[ho]at h2;cases h2;rw[hq]at h3;cases h3;exact .inr ⟨h1,h4,h6⟩
   .exact .inl (.inr ⟨i',o',k',q',h1,h2,h3,h4,om,h6⟩)
 .rintro((h|⟨i',o',k',q',h1,h2,h3,h4,h5,h6⟩)|⟨h1,h2,h3⟩)
  .exact .inl h
  .exact .inr ⟨i',o',k',q',h1,h2,h3,h4,om,h6⟩
  .exact .inr ⟨i,o,k,q,h1,ho,hq,h2,.inr ⟨rfl,om⟩,h3⟩
theorem Ub{l:List Obj}{ps:List aL}{L:List Nat}{i:Nat}{o:Obj}(ho:l[i]? =some o)(z:Int):T2 l ps L (i+1) 0 z↔T2 l ps L i o.aj.length z:=by
 constructor
 .rintro(h|⟨i',o',k',q',h1,h2,h3,h4,h5,h6⟩)
  .exact .inl h
  .refine .inr ⟨i',o',k',q',h1,h2,h3,h4,?_,h6⟩;by_cases hi:i'=i
   .subst hi;rw[ho]at h2;cases h2;exact .inr ⟨rfl,(Lw.1 h3).1⟩
   .exact .inl om
 .rintro(h|⟨i',o',k',q',h1,h2,h3,h4,h5,h6⟩)
  .exact .inl h
  .exact .inr ⟨i',o',k',q',h1,h2,h3,h4,om,h6⟩
def wV(l:List Obj)(ps:List aL)(L:List Nat)(Q:List Int):Prop:=QI (T2 l ps L l.length 0) Q
def Vs(l:List Obj)(ops:List aT)(ps:List aL)(L:List Nat)(Q:List Int):Mem:=[kB l ops ps,fY,.mp (L.map fE),.mp (Q.map mI),Bt]
theorem z8(l:List Obj)(ops:List aT)(ps:List aL)(L:List Nat)(Q:List Int)(n:Nat)(R:Mem):bW (sg [0,1,2,3,4] n) (kB l ops ps::fY:: .mp (L.map fE):: .mp (Q.map mI)::Bt::R) (λk=>bc [] k=true) 0 (Vs l ops ps L Q):=
 .pt rfl rfl (.eq rfl (by simp[kB])) (.pt rfl rfl (.eq rfl (by simp[fY])) (.pt rfl rfl (.eq (dg _) aD) (.pt rfl rfl (.eq (ff _) aD) (.pt rfl rfl (.eq rfl (by simp[Bt])) (.nil _)))))
theorem Kb(l:List Obj)(ops:List aT)(ps:List aL)(L:List Nat)(Q:List Int)(ds:List Dt)(n:Nat)(R:Mem):bW (sg [0,1,2,3,4,5] n) (kB l ops ps::fY:: .mp (L.map fE):: .mp (Q.map mI)::Bt:: .var (ds.map .ai)::R) (λk=>bc [] k=true) 0 (Vs l ops ps L Q++ [.var (ds.map .ai)]):=
 .pt rfl rfl (.eq rfl (by simp[kB])) (.pt rfl rfl (.eq rfl (by simp[fY])) (.pt rfl rfl (.eq (dg _) aD) (.pt rfl rfl (.eq (ff _) aD) (.pt rfl rfl (.eq rfl (by simp[Bt])) (.pt rfl rfl (.k9 rfl) (.nil _))))))
structure StQ where
 i:Nat
 Q:List Int
def Iu(l:List Obj)(ops:List aT)(ps:List aL)(L:List Nat)(K:Ex->St->Prop):Prop:=
 ∀Q,wV l ps L Q->XP (q8 L l) (qn Q ops) (z7 (q8 L l) ps) (C9 (q8 L l) ps ps.length) K
theorem t59(l:List Obj)(ops:List aT)(ps:List aL)(g:∀o,o∈l->o.sm)(hl:l.length<=4194304)(ho:ops.length<=4194304)(eF:ps.length<=4194304)(L:List Nat)(K:Ex->St->Prop)(hK:Iu l ops ps L K)(Q:List Int)(hQ:QI (T1 ps ps.length 0) Q):
  aw prog 0 X59 (ow (aw prog 0 T89) K) ⟨i5 284 [(1,p0 0),(2,p0 1),(3,aq false),(4,.rv (.one (.map 2))),(5,p0 4),(6,.rv (.one (.fn 24 [4])))],Vs l ops ps L Q⟩:=by
 refine ar (λa:StQ=>a.i<=l.length/\QI (T2 l ps L a.i 0) a.Q) [1,2,3,4,5,6,60,61] (λa=>[(62,al .i64 (a.i:Nat))]) (λa=>Vs l ops ps L a.Q) (λa=>l.length-a.i) ⟨0,Q⟩ ⟨WG _,hQ.cO T9⟩ ?_ (λa hJ=>?_)
 .refine View.o1 5 [0,1,2,3,4] [] (z8 l ops ps L Q 5 [])
 clear hQ;obtain⟨i,Q⟩:=a;obtain⟨hi,hQ⟩:=hJ;have hi:i<=l.length:=hi;have hQ:QI (T2 l ps L i 0) Q:=hQ;refine am (λh=>?_) (λh=>?_)
 .have ax:i<l.length:=by have h:(i:Int)<((l.map Obj.enc).length:Int):=h;rw[O9]at h;omega
  have OY:=wy ax;have qy:=g _ (aaR ax);have hg:=mW ax;generalize l[i]=o at OY qy hg;obtain⟨ah,data,ag,target,aG,aj,aQ,ak,up⟩:=o;have I6:aj.length<=8:=qy.q;refine af hg ?_;refine ar (λa:StQ=>a.i<=aj.length/\QI (T2 l ps L i a.i) a.Q) [1,2,3,4,5,6,11,60,61,62,70,71] (λa=>[(72,al .i64 (a.i:Nat))]) (λa=>Vs l ops ps L a.Q) (λa=>aj.length-a.i) ⟨0,Q⟩ ⟨WG _,hQ⟩ ?_ (λa hJ=>?_)
  .refine View.o1 5 [0,1,2,3,4] [] (z8 l ops ps L Q 5 [])
  clear hQ;obtain⟨k,Q⟩:=a;obtain⟨hk,hQ⟩:=hJ;have hk:k<=aj.length:=hk;have hQ:QI (T2 l ps L i k) Q:=hQ;refine am (λdK=>?_) (λdK=>?_)
  .have eJ:k<aj.length:=by have h:(k:Int)<((aj.map cy.enc).length:Int):=dK;rw[O9]at h;omega
   have T3:=wy eJ;have pq:cm (aj.map cy.enc) (k:Nat)=some (aj[k].enc):=by rw[aU,Qu,T3];rfl
   generalize aj[k]=ms at T3 pq;have wg:=Ua (ps:=ps) (L:=L) OY T3;obtain⟨mdata,has,b8,rts⟩:=ms;refine af (x:=[.sl 1 mdata,.val (.bool has),.val (.int .i64 b8),.val (.int .i64 rts)]) pq ?_;refine af (qI (i:Int) L) ?_;cases hn:m4 L (i:Int)with
   |false=>
    have AE:i∉L:=λh=>by rw[fx.2 h]at hn;cases hn
    refine⟨⟨k+1,Q⟩,⟨eJ,hQ.cO λz=>by rw[wg z];exact⟨λh=>h.elim id λh=>absurd h.1 AE,.inl⟩⟩,(show aj.length-(k+1)<aj.length-k by omega),View.o2 6 [0,1,2,3,4] [] (z8 l ops ps L Q 6 _)⟩
   |true=>
    have BR:i∈L:=fx.1 hn;refine aA (λhh=>?_) (λhh=>?_)
    .refine Ka (kB l ops ps) fY (.mp (L.map fE)) b8 rts Q [.var [.ai (.sl 1 mdata),.ai (.val (.bool has)),.ai (.val (.int .i64 b8)),.ai (.val (.int .i64 rts))]] ?_;refine⟨⟨k+1,pk b8 Q⟩,⟨eJ,hQ.add λz=>by rw[wg z];exact⟨λh=>h.elim .inl λh=>.inr h.2.2,λh=>h.elim .inl λh=>.inr ⟨BR,hh,h⟩⟩⟩,(show aj.length-(k+1)<aj.length-k by omega),View.o2 6 [0,1,2,3,4] [] (z8 l ops ps L (pk b8 Q) 6 _)⟩
    .refine⟨⟨k+1,Q⟩,⟨eJ,hQ.cO λz=>by rw[wg z];exact⟨λh=>h.elim id λh=>absurd h.2.1 (by rw[show has=false from hh];simp),.inl⟩⟩,(show aj.length-(k+1)<aj.length-k by omega),View.o2 6 [0,1,2,3,4] [] (z8 l ops ps L Q 6 _)⟩
  .have nn:k=aj.length:=by have h:¬(k:Int)<((aj.map cy.enc).length:Int):=dK;rw[O9]at h;omega
   subst nn;refine⟨⟨i+1,Q⟩,⟨ax,hQ.cO λz=>Ub OY z⟩,(show l.length-(i+1)<l.length-i by omega),View.o2 5 [0,1,2,3,4] [] (z8 l ops ps L Q 5 [])⟩
 .have iw:i=l.length:=by have h:¬(i:Int)<((l.map Obj.enc).length:Int):=h;rw[O9]at h;omega
  subst iw;refine⟨_,View.trans (View.R7 5 0 9 6 rfl rfl rfl rfl) (View.o1 7 [0,1,2,3,4,5,6] [] ?_),t90 l ops ps hl ho eF L Q K (hK Q hQ)⟩
  .exact .pt rfl rfl (.eq rfl (by simp[kB])) (.pt rfl rfl (.eq rfl (by simp[fY])) (.pt rfl rfl (.eq (dg _) aD) (.pt rfl rfl (.eq (ff _) aD) (.pt rfl rfl (.eq rfl (by simp[Bt])) (.pt rfl rfl (.eq rfl (by simp[ua])) (.pn rfl rfl rfl))))))
theorem t33(l:List Obj)(ops:List aT)(ps:List aL)(g:∀o,o∈l->o.sm)(hl:l.length<=4194304)(ho:ops.length<=4194304)(eF:ps.length<=4194304)(i3:∀p,p∈ps->p.an.length<=4194304)(L:List Nat)(K:Ex->St->Prop)(hK:Iu l ops ps L K):
  aw prog 0 X33 (ow (aw prog 0 T59) K) ⟨i5 284 [(1,p0 0),(2,p0 1),(3,aq false),(4,.rv (.one (.map 2))),(5,p0 4),(6,.rv (.one (.fn 24 [4])))],Vs l ops ps L []⟩:=by
 refine ar (λa:StQ=>a.i<=ps.length/\QI (T1 ps a.i 0) a.Q) [1,2,3,4,5,6,34,35] (λa=>[(36,al .i64 (a.i:Nat))]) (λa=>Vs l ops ps L a.Q) (λa=>ps.length-a.i) ⟨0,[]⟩ ⟨WG _,λz=>⟨(λh=>by cases h),λh=>absurd h T6⟩⟩ ?_ (λa hJ=>?_)
 .refine View.o1 5 [0,1,2,3,4] [] (z8 l ops ps L [] 5 [])
 obtain⟨p,Q⟩:=a;obtain⟨hp,hQ⟩:=hJ;have hp:p<=ps.length:=hp;have hQ:QI (T1 ps p 0) Q:=hQ;refine am (λh=>?_) (λh=>?_)
 .have fP:p<ps.length:=by have h:(p:Int)<((ps.map aL.enc).length:Int):=h;rw[O9]at h;omega
  have nS:=wy fP;have nf:=i3 _ (aaR fP);have hg:=(by rw[aU,Qu,nS];rfl:cm (ps.map aL.enc) (p:Nat)=some (ps[p].enc))
  generalize ps[p]=pr at nS hg nf;obtain⟨aF,fenced,code,an⟩:=pr;have nf:an.length<=4194304:=nf;refine af (x:=[.val (.bool aF),.val (.bool fenced),.val (.int .i64 code),gL an]) hg ?_;refine ar (λa:StQ=>a.i<=an.length/\QI (T1 ps p a.i) a.Q) [1,2,3,4,5,6,8,34,35,36,41,42] (λa=>[(43,al .i64 (a.i:Nat))]) (λa=>Vs l ops ps L a.Q++ [.var ([Dt.val (.bool aF),.val (.bool fenced),.val (.int .i64 code),gL an].map .ai)]) (λa=>an.length-a.i) ⟨0,Q⟩
   ⟨WG _,hQ⟩ ?_ (λa hJ=>?_)
  .refine View.o1 6 [0,1,2,3,4,5] [] (Kb l ops ps L Q [.val (.bool aF),.val (.bool fenced),.val (.int .i64 code),gL an] 6 [])
  clear hQ;obtain⟨j,Q⟩:=a;obtain⟨hj,hQ⟩:=hJ;have hj:j<=an.length:=hj;have hQ:QI (T1 ps p j) Q:=hQ;refine am (λf4=>?_) (λf4=>?_)
  .have bQ:j<an.length:=by have h:(j:Int)<((an.map dJ.enc).length:Int):=f4;rw[O9]at h;omega
   have hs:=wy bQ;have pq:cm (an.map dJ.enc) (j:Nat)=some (an[j].enc):=by rw[aU,Qu,hs];rfl
   generalize an[j]=s at hs pq;have wg:=T7 nS hs;obtain⟨has,b8,rts⟩:=s;refine af (x:=[.val (.bool has),.val (.int .i64 b8),.val (.int .i64 rts)]) pq ?_;have skip:¬(aF=true/\has=true)->QI (T1 ps p (j+1)) Q:=λhn=>hQ.cO λz=>by rw[wg z];exact⟨λh=>h.elim id λh=>absurd ⟨h.1,h.2.1⟩ hn,.inl⟩
   refine aA (λbO=>?_) (λbO=>?_)
   .refine aA (λhh=>?_) (λhh=>?_)
    .refine Ka (kB l ops ps) fY (.mp (L.map fE)) b8 rts Q [.var [.ai (.val (.bool aF)),.ai (.val (.bool fenced)),.ai (.val (.int .i64 code)),.ai (gL an)],.var [.ai (.val (.bool has)),.ai (.val (.int .i64 b8)),.ai (.val (.int .i64 rts))]] ?_;refine⟨⟨j+1,pk b8 Q⟩,⟨bQ,hQ.add λz=>by rw[wg z];exact⟨λh=>h.elim .inl λh=>.inr h.2.2,λh=>h.elim .inl λh=>.inr ⟨bO,hh,h⟩⟩⟩,(show an.length-(j+1)<an.length-j by omega),View.o2 7 [0,1,2,3,4,5] [] (Kb l ops ps L (pk b8 Q) [.val (.bool aF),.val (.bool fenced),.val (.int .i64 code),gL an] 7 _)⟩
    .refine⟨⟨j+1,Q⟩,⟨bQ,skip λh=>by rw[h.2]at hh;cases hh⟩,(show an.length-(j+1)<an.length-j by omega),View.o2 7 [0,1,2,3,4,5] [] (Kb l ops ps L Q [.val (.bool aF),.val (.bool fenced),.val (.int .i64 code),gL an] 7 _)⟩
   .refine⟨⟨j+1,Q⟩,⟨bQ,skip λh=>by rw[h.1]at bO;cases bO⟩,(show an.length-(j+1)<an.length-j by omega),View.o2 7 [0,1,2,3,4,5] [] (Kb l ops ps L Q [.val (.bool aF),.val (.bool fenced),.val (.int .i64 code),gL an] 7 _)⟩
  .have rJ:j=an.length:=by have h:¬(j:Int)<((an.map dJ.enc).length:Int):=f4;rw[O9]at h;omega
   subst rJ;refine⟨⟨p+1,Q⟩,⟨fP,hQ.cO λz=>T8 nS z⟩,(show ps.length-(p+1)<ps.length-p by omega),View.o2 6 [0,1,2,3,4] [] (z8 l ops ps L Q 6 _)⟩
 .have vy:p=ps.length:=by have h:¬(p:Int)<((ps.map aL.enc).length:Int):=h;rw[O9]at h;omega
  subst vy;refine⟨_,View.o1 5 [0,1,2,3,4] [] (z8 l ops ps L Q 5 []),t59 l ops ps g hl ho eF L K hK Q hQ⟩
theorem MP:dS.sm:=⟨⟨⟨[],rfl⟩,⟨[],rfl⟩,λq hq=>by simp[dS]at hq⟩,by simp[dS],by simp[dS],by simp[dS],λq hq=>by simp[dS]at hq⟩
def iO(ps:List aL):Nat:=(ps.filter λp=>p.aF).length
theorem Bv:∀(a b:List aL),b.length=a.length->(∀(t:Nat)x y,a[t]? =some x->b[t]? =some y->y.aF=true->x.aF=true)->iO b<=iO a/\((∃(t:Nat)(x y:aL),a[t]? =some x/\b[t]? =some y/\x.aF=true/\y.aF=false)->iO b<iO a)
 | [],[],_,_=>⟨aai _,λ⟨t,x,y,h,_⟩=>by simp at h⟩
 | [],_::_,h,_=>by simp at h
 |_::_,[],h,_=>by simp at h
 |x::a,y::b,h,hm=>by
  obtain⟨ZZ,ih2⟩:=Bv a b (by simpa using h) (λt u v hu hv=>hm (t+1) u v (by simpa using hu) (by simpa using hv))
  have h0:=hm 0 x y aD aD;refine⟨?_,λ⟨t,u,v,hu,hv,Z0,vz⟩=>?_⟩
  .unfold iO at ZZ|-;cases hx:x.aF<;>cases hy:y.aF<;>simp[hx,hy]at h0|-<;>omega
  .cases t with
   |zero=>
    simp at hu hv;subst hu hv;unfold iO at ZZ|-;simp[Z0,vz];omega
   |succ t=>
    have:=ih2 ⟨t,u,v,by simpa using hu,by simpa using hv,Z0,vz⟩
    unfold iO at this|-;cases hx:x.aF<;>cases hy:y.aF<;>simp[hx,hy]at h0|-<;>omega
structure Kx where
 l:List Obj
 ops:List aT
 ps:List aL
structure CT(k:Kx):Prop where
 g:∀o,o∈k.l->o.sm
 hl:k.l.length<=4194304
 ho:k.ops.length<=4194304
 hp:k.ps.length<=4194304
 hs:∀p,p∈k.ps->p.an.length<=4194304
structure tW(k k':Kx)(bR:Bool):Prop where
 ex:∃L Q,ij k.l k.ops k.ps L/\wV k.l k.ps L Q/\k'.l=q8 L k.l/\k'.ops=qn Q k.ops
 ps:k'.ps=z7 k'.l k.ps
 mo:bR=C9 k'.l k.ps k.ps.length
inductive XQ(k:Kx):Kx->Prop
 |refl:XQ k k
 |step {a b:Kx} (h:XQ k a) (s:tW a b true):XQ k b
theorem XR{L:List Nat}{i:Nat}{o:Obj}(h:o.sm):(Bu L i o).sm:=by
 unfold Bu;split
 .exact MP
 .split
  .exact⟨h.t,h.d,h.e,h.q,h.qd⟩
  .exact h
theorem mB{α β:Type}{f:Nat->α->β}{l:List α}{y:β}(h:y∈l.mapIdx f):∃i x,l[i]? =some x/\y=f i x:=by
 obtain⟨i,hi⟩:=ac4.1 h;rw[ab1]at hi;cases hx:l[i]? with
 |none=>rw[hx]at hi;cases hi
 |some x=>
  rw[hx]at hi;exact⟨i,x,hx,(ac3 hi).symm⟩
theorem tW.sz{a b:Kx}{m:Bool}(s:tW a b m)(h:CT a):CT b:=by
 obtain⟨⟨L,Q,_,_,e1,e2⟩,e3,_⟩:=s;refine⟨λo ho=>?_,?_,?_,?_,λp hp=>?_⟩
 .rw[e1]at ho;obtain⟨i,x,hx,rfl⟩:=mB ho;exact XR (h.g x (Vm hx))
 .rw[e1,q8,acd];exact h.hl
 .rw[e2,qn,acd];exact h.ho
 .rw[e3,z7,acd];exact h.hp
 .rw[e3]at hp;obtain⟨i,x,hx,rfl⟩:=mB hp;unfold QQ;split
  .exact WG _
  .exact h.hs x (Vm hx)
theorem Fg{l':List Obj}{ps:List aL}:∀k,C9 l' ps k=true->∃t p,ps[t]? =some p/\It l' t p=true
 |0,h=>by cases h
 |k+1,h=>by
  simp only[C9,acp]at h;rcases h with h|h
  .cases hp:ps[k]? with
   |none=>rw[hp]at h;cases h
   |some p=>rw[hp]at h;exact⟨k,p,hp,h⟩
  .exact Fg k h
theorem QS{l':List Obj}{t:Nat}{p:aL}(h:It l' t p=true):p.aF=true:=by simp only[It,aaL]at h;exact h.2.1
theorem tW.abw{a b:Kx}(s:tW a b true):iO b.ps<iO a.ps:=by
 obtain⟨_,e3,e4⟩:=s;obtain⟨t,p,hp,hb⟩:=Fg _ e4.symm;have vK:∀(i:Nat)(x:aL),a.ps[i]? =some x->b.ps[i]? =some (QQ b.l i x):=λi x hx=>by rw[e3,z7,ab1,hx];rfl
 refine(Bv a.ps b.ps (by rw[e3,z7,acd]) λi x y hx hy hl=>?_).2 ⟨t,p,fl,hp,?_,QS hb,rfl⟩
 .rw[vK i x hx]at hy;cases hy;unfold QQ at hl;split at hl
  .cases hl
  .exact hl
 .rw[vK t p hp,QQ,hb];rfl
def jN(k:Kx):Mem:=[ua (.row 2 9 0 none) (.row 3 2 0 none) (.row 4 4 0 none),fY,.row 9 (aa (k.l.map Obj.enc)),.row 2 (aa (k.ops.map aT.enc)),.row 4 (aa (k.ps.map aL.enc))]
theorem afK(k:Kx)(h:CT k)(K:Ex->St->Prop)(hK:∀L,ij k.l k.ops k.ps L->Iu k.l k.ops k.ps L K):
  aw prog 0 B21 K ⟨i5 284 [(1,p0 0),(2,p0 1),(3,aq true),(28,aq true)],[kB k.l k.ops k.ps,fY]⟩:=by
 refine MN k.l k.ops k.ps h.g h.hl h.hp h.hs λL hL=>?_
 refine⟨_,View.o1 5 [0,1,2,3,4] [] (z8 k.l k.ops k.ps L [] 5 []),t33 k.l k.ops k.ps h.g h.hl h.ho h.hp h.hs L K (hK L hL)⟩
theorem afL(k:Kx):bW (sg [0,1] 5) (jN k) (λi=>bc [2,3,4] i=true) 0 [kB k.l k.ops k.ps,fY]:=by
 refine .pt rfl rfl (dy.var (.cons (.dG ?_) (.cons (.dG ?_) (.cons (.dG ?_) .nil)))) (.pt rfl rfl (.eq rfl (by simp[fY])) (.nil _))
 .exact cS.da (Z:=λi=>bc [2,3,4] i=true) (m:=jN k) (id:=2) (esz:=9) (ds:=k.l.map Obj.enc) rfl rfl 0 none
 .exact cS.da (Z:=λi=>bc [2,3,4] i=true) (m:=jN k) (id:=3) (esz:=2) (ds:=k.ops.map aT.enc) rfl rfl 0 none
 .exact cS.da (Z:=λi=>bc [2,3,4] i=true) (m:=jN k) (id:=4) (esz:=4) (ds:=k.ps.map aL.enc) rfl rfl 0 none
def afM(k:Kx)(K:Ex->St->Prop):Prop:=
 ∀e m,View 0 ⟨e,m⟩ ⟨i5 284 [(1,p0 0),(2,p0 1)],jN k⟩->K .normal ⟨e,m⟩
def Fh(k b:Kx):Prop:=∃a,XQ k a/\tW a b false
def G21:LC:=oK (bi c8.code)
structure StO where
 k:Kx
 bR:Bool
def hdM(a:StO):Mem:=match a.bR with
 |true=>[kB a.k.l a.k.ops a.k.ps,fY]
 |false=>jN a.k
def abx:LC:=bi (bi c8.code)
def U22:LC:=bi abx
def aby:LC:=bi U22
def Uc:LC:=bi aby
def XS:LC:=bi Uc
def XT:LC:=bi XS
def afN:LC:=l5 (oK abx)
def abz:LC:=l5 (oK aby)
def afO:LC:=l5 (oK Uc)
def afP:LC:=l5 (oK XS)
def afQ:LC:=l5 (oK XT)
def dB(n len:Nat):Nat:=if(len:Int)<(n:Int)then len else n
theorem u7(n len:Nat):dB n len<=len:=by unfold dB;split<;>omega
theorem zj(n len:Nat):(if(len:Int)<(n:Int)then(len:Int)else(n:Int))=((dB n len:Nat):Int):=by unfold dB;split<;>rfl
def MQ(b:Kx)(n o p:Nat):CV:=cA (b.l.take (dB n b.l.length)) (b.ops.take o) (b.ps.take (dB p b.ps.length))
def MR(Q:CV->Prop):Ex->St->Prop:=nu prog c8.lM λr m=>∃c,Q c/\cH m r c
theorem QT(b:Kx)(n o p:Nat){m:Mem}(h2:m[2]? =some (.row 9 (aa (b.l.map Obj.enc))))(h3:m[3]? =some (.row 2 (aa (b.ops.map aT.enc))))(h4:m[4]? =some (.row 4 (aa (b.ps.map aL.enc)))):
  cH m (.rv (.agg [.row 2 9 0 (some (dB n b.l.length)),.row 3 2 0 (some o),.row 4 4 0 (some (dB p b.ps.length))])) (MQ b n o p):=by
 have e2:=d7.da h2 0 (some (dB n b.l.length));have e3:=d7.da h3 0 (some o);have e4:=d7.da h4 0 (some (dB p b.ps.length));rw[show bA (b.l.map Obj.enc) 0 (some (dB n b.l.length))=(b.l.take (dB n b.l.length)).map Obj.enc from List.map_take.symm]at e2;rw[show bA (b.ops.map aT.enc) 0 (some o)=(b.ops.take o).map aT.enc from List.map_take.symm]at e3;rw[show bA (b.ps.map aL.enc) 0 (some (dB p b.ps.length))=(b.ps.take (dB p b.ps.length)).map aL.enc from List.map_take.symm]at e4;refine .rv (.agg rfl λi c c' h h'=>?_)
 match i,h,h' with
 |0,h,h'=>cases h;cases h';exact e2
 |1,h,h'=>cases h;cases h';exact e3
 |2,h,h'=>cases h;cases h';exact e4
 |k+3,h,h'=>simp at h
def eN(n o p:Nat):List CV:=i5 284 [(1,p0 0),(2,p0 1),(22,al .i64 (n:Nat)),(23,al .i64 (o:Nat)),(24,al .i64 (p:Nat))]
theorem afR(b:Kx)(n o p:Nat)(ho:o<=b.ops.length)(Q:CV->Prop)(hQ:Q (MQ b n o p)):
  aw prog 0 afQ (ow (aw prog 0 (bi XT)) (MR Q)) ⟨eN n o p,jN b⟩:=by
 have hlO:(aa (b.l.map Obj.enc)).length=b.l.length:=by rw[aJ,O9]
 have hlP:(aa (b.ps.map aL.enc)).length=b.ps.length:=by rw[aJ,O9]
 have hlQ:(aa (b.ops.map aT.enc)).length=b.ops.length:=by rw[aJ,O9]
 have nO:px (al .i64 (if(((aa (b.l.map Obj.enc)).length:Nat):Int)<(n:Int)then(((aa (b.l.map Obj.enc)).length:Nat):Int)else(n:Int)))=some (dB n b.l.length):=by rw[hlO,zj];rfl
 have nP:px (al .i64 (if(((aa (b.ps.map aL.enc)).length:Nat):Int)<(p:Int)then(((aa (b.ps.map aL.enc)).length:Nat):Int)else(p:Int)))=some (dB p b.ps.length):=by rw[hlP,zj];rfl
 have hQb:(Nat.ble 0 o&&Nat.ble o ((aa (b.ops.map aT.enc)).length-0))=true:=by simp[abR,hlQ];omega
 have hOb:(Nat.ble 0 (dB n b.l.length)&&Nat.ble (dB n b.l.length) ((aa (b.l.map Obj.enc)).length-0))=true:=by simp[abR,hlO];exact u7 _ _
 have hPb:(Nat.ble 0 (dB p b.ps.length)&&Nat.ble (dB p b.ps.length) ((aa (b.ps.map aL.enc)).length-0))=true:=by simp[abR,hlP];exact u7 _ _
 refine bV hQb ?_;refine⟨?_,?_⟩
 .refine⟨⟨rfl,rfl,rfl,bV hQb rfl,rfl,rfl,trivial⟩,?_⟩;refine af nO ?_;refine bV hOb ?_;refine⟨⟨af nO (bV hOb rfl),rfl,bV hQb rfl,rfl,rfl,rfl,rfl,trivial⟩,?_⟩;refine af nP ?_;refine bV hPb ?_;refine⟨trivial,?_⟩;refine⟨_,hQ,?_⟩;exact QT b n o p rfl rfl rfl
 .refine⟨⟨rfl,bV hQb rfl,rfl,rfl,rfl,rfl,trivial⟩,?_⟩;refine af nP ?_;refine bV hPb ?_;refine⟨⟨af nP (bV hPb rfl),rfl,rfl,rfl,bV hQb rfl,rfl,rfl,trivial⟩,?_⟩;refine af nO ?_;refine bV hOb ?_;refine⟨trivial,?_⟩;refine⟨_,hQ,?_⟩;exact QT b n o p rfl rfl rfl
theorem zk{α:Type}{f:α->List Dt}{l:List α}{n:Nat}(h:n<l.length):dL (n:Int) (lenOf (aa (l.map f)).length 0 none)=some n:=bJ (by show n<(aa (l.map f)).length;rw[aJ,O9];exact h)
theorem Kc{α:Type}{f:α->List Dt}{l:List α}{k:Nat}(h:(k:Int)<(((aa (l.map f)).length:Nat):Int)):k<l.length:=by rw[aJ,O9]at h;omega
theorem Ke{α:Type}{f:α->List Dt}{l:List α}{k:Nat}(h:¬(k:Int)<(((aa (l.map f)).length:Nat):Int)):l.length<=k:=by rw[aJ,O9]at h;omega
def fZ{α:Type}(f:Nat->Nat->α->Nat)(n0:Nat)(xs:List α):Nat->Nat
 |0=>n0
 |k+1=>match xs[k]? with
  |some x=>f (fZ f n0 xs k) k x
  |none=>fZ f n0 xs k
theorem qS{α:Type}{f:Nat->Nat->α->Nat}{n0:Nat}{xs:List α}{k:Nat}(h:k<xs.length):fZ f n0 xs (k+1)=f (fZ f n0 xs k) k xs[k]:=by rw[fZ,wy h]
def nF(n i:Nat)(o:Obj):Nat:=if o.ah≠0/\n<=i then i+1 else n
def oF(n i:Nat)(o:aT):Nat:=if 0<=o.obj then i+1 else n
def Rs(l:List Obj)(i:Nat)(p:aL):Bool:=decide (0<i)&&(p.aF||l.any (cN (i:Nat)))
def pF(l:List Obj)(n i:Nat)(p:aL):Nat:=if Rs l i p=true then i+1 else n
theorem abB{n i:Nat}{o:aT}(h:n<=i):oF n i o<=i+1:=by unfold oF;split<;>omega
theorem CU(xs:List aT):∀k,fZ oF 0 xs k<=k
 |0=>aai 0
 |k+1=>by
  have ih:=CU xs k;rw[fZ];split
  .exact abB ih
  .omega
theorem iv(b:Kx)(n:Nat)(R:Mem):bW (sg [0,1,2,3,4] n) (ua (.row 2 9 0 none) (.row 3 2 0 none) (.row 4 4 0 none)::fY:: .row 9 (aa (b.l.map Obj.enc)):: .row 2 (aa (b.ops.map aT.enc)):: .row 4 (aa (b.ps.map aL.enc))::R) (λk=>bc [] k=true) 0 (jN b):=
 .pt rfl rfl (.eq rfl (by simp[ua])) (.pt rfl rfl (.eq rfl (by simp[fY])) (.pr rfl rfl rfl (.pr rfl rfl rfl (.pn rfl rfl rfl))))
theorem afT(b:Kx)(hb:CT b)(n o:Nat)(ho:o<=b.ops.length)(Q:CV->Prop)(hQ:Q (MQ b n o (fZ (pF b.l) 1 b.ps b.ps.length))):
  aw prog 0 afP (ow (aw prog 0 XT) (MR Q)) ⟨eN n o 1,jN b⟩:=by
 have eF:=hb.hp;refine ar (λi=>i<=b.ps.length) [1,2,22,23,240] (λi=>[(24,al .i64 (fZ (pF b.l) 1 b.ps i:Nat)),(241,al .i64 (i:Nat))]) (λ_=>jN b) (λi=>b.ps.length-i) 0 (WG _) ?_ (λi hi=>?_)
 .refine View.o1 5 [0,1,2,3,4] [] (iv b 5 [])
 have hi:i<=b.ps.length:=hi;refine am (λh=>?_) (λh=>?_)
 .have ax:i<b.ps.length:=Kc h;have hs:=qS (f:=pF b.l) (n0:=1) ax;have yes:Rs b.l i b.ps[i]=true->fZ (pF b.l) 1 b.ps (i+1)=i+1:=λhk=>by rw[hs,pF,hk];rfl
  have no:Rs b.l i b.ps[i]=false->fZ (pF b.l) 1 b.ps (i+1)=fZ (pF b.l) 1 b.ps i:=λhk=>by rw[hs,pF,hk];rfl
  have hm:b.ps.length-(i+1)<b.ps.length-i:=om;refine am (λh0=>?_) (λh0=>?_)
  .have h0:0<i:=by have h0:(i:Int)>0:=h0;omega
   refine af (zk ax) ?_;refine af (bm aL.enc b.ps ax) ?_;refine aA (λbO=>?_) (λbO=>?_)
   .refine⟨i+1,ax,hm,View.o 5 [0,1,2,3,4] [] ?_ (iv b 5 [])⟩;rw[yes (by unfold Rs;rw[bO,decide_eq_true h0];rfl)]
    repeat(first|exact .nil|refine .aH ?_|refine .put (.aN (br om).symm) ?_|refine .eq rfl ?_)
   .refine u6 b.l hb.hl (i:Nat) (id:=2) rfl ?_;refine aA (λhh=>?_) (λhh=>?_)
    .refine⟨i+1,ax,hm,View.o 5 [0,1,2,3,4] [] ?_ (iv b 5 [])⟩;rw[yes (by unfold Rs;rw[bO,decide_eq_true h0,hh];rfl)]
     repeat(first|exact .nil|refine .aH ?_|refine .put (.aN (br om).symm) ?_|refine .eq rfl ?_)
    .refine⟨i+1,ax,hm,View.o 5 [0,1,2,3,4] [] ?_ (iv b 5 [])⟩;rw[no (by unfold Rs;rw[bO,decide_eq_true h0,hh];rfl)]
     repeat(first|exact .nil|refine .aH ?_|refine .put (.aN (br om).symm) ?_|refine .eq rfl ?_)
  .have h0:¬0<i:=by have h0:¬(i:Int)>0:=h0;omega
   refine⟨i+1,ax,hm,View.o 5 [0,1,2,3,4] [] ?_ (iv b 5 [])⟩;rw[no (by unfold Rs;rw[decide_eq_false h0];rfl)]
   repeat(first|exact .nil|refine .aH ?_|refine .put (.aN (br om).symm) ?_|refine .eq rfl ?_)
 .have h9:=Ke h;have iw:i=b.ps.length:=om;subst iw;refine⟨_,View.o1 5 [0,1,2,3,4] [] (iv b 5 []),afR b n o _ ho Q hQ⟩
theorem afU(b:Kx)(hb:CT b)(n:Nat)(Q:CV->Prop)(hQ:Q (MQ b n (fZ oF 0 b.ops b.ops.length) (fZ (pF b.l) 1 b.ps b.ps.length))):
  aw prog 0 afO (ow (aw prog 0 XS) (MR Q)) ⟨eN n 0 1,jN b⟩:=by
 have i7:=hb.ho;refine ar (λi=>i<=b.ops.length) [1,2,22,24,224] (λi=>[(23,al .i64 (fZ oF 0 b.ops i:Nat)),(225,al .i64 (i:Nat))]) (λ_=>jN b) (λi=>b.ops.length-i) 0 (WG _) ?_ (λi hi=>?_)
 .refine View.o1 5 [0,1,2,3,4] [] (iv b 5 [])
 have hi:i<=b.ops.length:=hi;refine am (λh=>?_) (λh=>?_)
 .have ax:i<b.ops.length:=Kc h;have hs:=qS (f:=oF) (n0:=0) ax;have hm:b.ops.length-(i+1)<b.ops.length-i:=om;refine af (zk ax) ?_;refine af (bm aT.enc b.ops ax) ?_;refine am (λh0=>?_) (λh0=>?_)
  .refine⟨i+1,ax,hm,View.o 5 [0,1,2,3,4] [] ?_ (iv b 5 [])⟩;rw[show fZ oF 0 b.ops (i+1)=i+1 from by rw[hs,oF,if_pos h0]]
   repeat(first|exact .nil|refine .aH ?_|refine .put (.aN (br om).symm) ?_|refine .eq rfl ?_)
  .refine⟨i+1,ax,hm,View.o 5 [0,1,2,3,4] [] ?_ (iv b 5 [])⟩;rw[show fZ oF 0 b.ops (i+1)=fZ oF 0 b.ops i from by rw[hs,oF,if_neg h0]]
   repeat(first|exact .nil|refine .aH ?_|refine .put (.aN (br om).symm) ?_|refine .eq rfl ?_)
 .have h9:=Ke h;have iw:i=b.ops.length:=om;subst iw;refine⟨_,View.o1 5 [0,1,2,3,4] [] (iv b 5 []),afT b hb n _ (CU _ _) Q hQ⟩
theorem afV(b:Kx)(hb:CT b)(Q:CV->Prop)(hQ:Q (MQ b (fZ nF 1 b.l b.l.length) (fZ oF 0 b.ops b.ops.length) (fZ (pF b.l) 1 b.ps b.ps.length))):
  aw prog 0 abz (ow (aw prog 0 Uc) (MR Q)) ⟨eN 1 0 1,jN b⟩:=by
 have i7:=hb.hl;refine ar (λi=>i<=b.l.length) [1,2,23,24,203] (λi=>[(22,al .i64 (fZ nF 1 b.l i:Nat)),(204,al .i64 (i:Nat))]) (λ_=>jN b) (λi=>b.l.length-i) 0 (WG _) ?_ (λi hi=>?_)
 .refine View.o1 5 [0,1,2,3,4] [] (iv b 5 [])
 have hi:i<=b.l.length:=hi;refine am (λh=>?_) (λh=>?_)
 .have ax:i<b.l.length:=Kc h;have hs:=qS (f:=nF) (n0:=1) ax;have hm:b.l.length-(i+1)<b.l.length-i:=om;refine af (zk ax) ?_;refine af (bm Obj.enc b.l ax) ?_;refine aA (λhk=>?_) (λhk=>?_)
  .have hk:b.l[i].ah≠0:=by simpa using hk
   refine am (λh0=>?_) (λh0=>?_)
   .have h0:fZ nF 1 b.l i<=i:=by have h0:(i:Int)>=((fZ nF 1 b.l i:Nat):Int):=h0;omega
    refine⟨i+1,ax,hm,View.o 5 [0,1,2,3,4] [] ?_ (iv b 5 [])⟩;rw[show fZ nF 1 b.l (i+1)=i+1 from by rw[hs,nF,if_pos ⟨hk,h0⟩]]
    repeat(first|exact .nil|refine .aH ?_|refine .put (.aN (br om).symm) ?_|refine .eq rfl ?_)
   .have h0:¬fZ nF 1 b.l i<=i:=by have h0:¬(i:Int)>=((fZ nF 1 b.l i:Nat):Int):=h0;omega
    refine⟨i+1,ax,hm,View.o 5 [0,1,2,3,4] [] ?_ (iv b 5 [])⟩;rw[show fZ nF 1 b.l (i+1)=fZ nF 1 b.l i from by rw[hs,nF,if_neg (λh=>h0 h.2)]]
    repeat(first|exact .nil|refine .aH ?_|refine .put (.aN (br om).symm) ?_|refine .eq rfl ?_)
  .have hk:b.l[i].ah=0:=by simpa using hk
   refine⟨i+1,ax,hm,View.o 5 [0,1,2,3,4] [] ?_ (iv b 5 [])⟩;rw[show fZ nF 1 b.l (i+1)=fZ nF 1 b.l i from by rw[hs,nF,if_neg (λh=>h.1 hk)]]
   repeat(first|exact .nil|refine .aH ?_|refine .put (.aN (br om).symm) ?_|refine .eq rfl ?_)
 .have h9:=Ke h;have iw:i=b.l.length:=om;subst iw;refine⟨_,View.o1 5 [0,1,2,3,4] [] (iv b 5 []),afU b hb _ Q hQ⟩
def Vt(l:List Obj)(i:Nat)(p:aL):Bool:=decide (0<i)&&(!p.aF&& !(l.any (cN (i:Nat))))
def Rt(l:List Obj)(i:Nat)(p:aL):aL:=if Vt l i p=true then fl else p
def XU(b:Kx):Kx:=⟨b.l,b.ops,b.ps.mapIdx (Rt b.l)⟩
theorem CT.cl{b:Kx}(h:CT b):CT (XU b):=by
 refine⟨h.g,h.hl,h.ho,?_,λp hp=>?_⟩
 .show(b.ps.mapIdx (Rt b.l)).length<=_;rw[acd];exact h.hp
 .obtain⟨i,x,hx,rfl⟩:=mB hp;unfold Rt;split
  .exact WG _
  .exact h.hs x (Vm hx)
def Kf(l:List Obj)(k t:Nat)(p:aL):aL:=if t<k then Rt l t p else p
theorem Ud{b:Kx}{P:List aL}(h:Pt b.ps P (Kf b.l b.ps.length)):P=(XU b).ps:=by
 refine ab4 λi=>?_
 rw[show(XU b).ps=b.ps.mapIdx (Rt b.l)from rfl,ab1];cases hx:b.ps[i]? with
 |none=>
  have:=acq.1 hx;exact acq.2 (by rw[h.1];exact this)
 |some x=>
  have:=(Lw.1 hx).1;rw[h.2 i x hx,Kf,if_pos this];rfl
structure StC where
 i:Nat
 P:List aL
def Yt(b:Kx):CV:=MQ (XU b) (fZ nF 1 b.l b.l.length) (fZ oF 0 b.ops b.ops.length) (fZ (pF b.l) 1 (XU b).ps (XU b).ps.length)
theorem wW(l:List Obj)(ops:List aT)(P:List aL)(n:Nat)(R:Mem):bW (sg [0,1,2,3,4] n) (ua (.row 2 9 0 none) (.row 3 2 0 none) (.row 4 4 0 none)::fY:: .row 9 (aa (l.map Obj.enc)):: .row 2 (aa (ops.map aT.enc)):: .row 4 (aa (P.map aL.enc))::R) (λk=>bc [] k=true) 0 (jN ⟨l,ops,P⟩):=
 .pt rfl rfl (.eq rfl (by simp[ua])) (.pt rfl rfl (.eq rfl (by simp[fY])) (.pr rfl rfl rfl (.pr rfl rfl rfl (.pn rfl rfl rfl))))
theorem afW(b:Kx)(hb:CT b)(Q:CV->Prop)(hQ:Q (Yt b)):
  aw prog 0 afN (ow (aw prog 0 U22) (MR Q)) ⟨i5 284 [(1,p0 0),(2,p0 1)],jN b⟩:=by
 have eF:=hb.hp;refine ar (λs:StC=>s.i<=b.ps.length/\Pt b.ps s.P (Kf b.l s.i)) [1,2,173] (λs=>[(174,al .i64 (s.i:Nat))]) (λs=>jN ⟨b.l,b.ops,s.P⟩) (λs=>b.ps.length-s.i) ⟨0,b.ps⟩ ⟨WG _,(Pt.refl b.ps).congr λt o _=>by simp[Kf]⟩ ?_ (λs hJ=>?_)
 .refine View.o1 5 [0,1,2,3,4] [] (iv b 5 [])
 obtain⟨i,P⟩:=s;obtain⟨hi,hP⟩:=hJ;have hi:i<=b.ps.length:=hi;have hP:Pt b.ps P (Kf b.l i):=hP;have Z1:=hP.1;refine am (λh=>?_) (λh=>?_)
 .have ax:i<b.ps.length:=Kc h;obtain⟨Sn,Lj⟩:=hP.at ax;have Lj:P[i]=b.ps[i]:=by rw[Lj];simp[Kf]
  have hm:b.ps.length-(i+1)<b.ps.length-i:=om;have kj:∀t o,t≠i->Kf b.l (i+1) t o=Kf b.l i t o:=λt o ht=>by
   unfold Kf;rcases aax t i with h1|h1
   .rw[if_pos h1,if_pos om]
   .rw[if_neg om,if_neg om]
  have mY:Vt b.l i b.ps[i]=false->Pt b.ps P (Kf b.l (i+1)):=λhf=>hP.congr λt o zy=>by
   by_cases Je:t=i
   .subst Je;rw[wy ax]at zy;cases zy;rw[Kf,Kf,if_neg om,if_pos om,Rt,hf];rfl
   .exact(kj t o Je).symm
  refine am (λh0=>?_) (λh0=>?_)
  .have h0:0<i:=by have h0:(i:Int)>0:=h0;omega
   refine af (zk Sn) ?_;refine af (bm aL.enc P Sn) ?_;refine aA (λbO=>?_) (λbO=>?_)
   .rw[Lj]at bO;refine u6 b.l hb.hl (i:Nat) (id:=2) rfl ?_;refine aA (λhh=>?_) (λhh=>?_)
    .have he:Vt b.l i b.ps[i]=true:=by unfold Vt;rw[bO,hh];simp[h0]
     refine af (zk Sn) ?_;refine af (bm aL.enc P Sn) ?_;have hs:=hP.set (j:=i) (x:=fl) (g:=Kf b.l (i+1)) (λo zy=>by rw[wy ax]at zy;cases zy;rw[Kf,if_pos om,Rt,he];rfl) (λt o Je _=>kj t o Je)
     refine⟨⟨i+1,P.set i fl⟩,⟨ax,hs⟩,hm,View.o2 5 [0,1,2,3,4] [] ?_⟩
     .exact .pt rfl rfl (.eq rfl (by simp[ua])) (.pt rfl rfl (.eq rfl (by simp[fY])) (.pr rfl rfl rfl (.pr rfl rfl rfl (.pt rfl rfl (OH P i) (.nil _)))))
    .refine⟨⟨i+1,P⟩,⟨ax,mY (by unfold Vt;rw[hh];simp)⟩,hm,View.o2 5 [0,1,2,3,4] [] (wW b.l b.ops P 5 [])⟩
   .rw[Lj]at bO;refine⟨⟨i+1,P⟩,⟨ax,mY (by unfold Vt;rw[bO];simp)⟩,hm,View.o2 5 [0,1,2,3,4] [] (wW b.l b.ops P 5 [])⟩
  .have h0:¬0<i:=by have h0:¬(i:Int)>0:=h0;omega
   refine⟨⟨i+1,P⟩,⟨ax,mY (by unfold Vt;rw[decide_eq_false h0];rfl)⟩,hm,View.o2 5 [0,1,2,3,4] [] (wW b.l b.ops P 5 [])⟩
 .have h9:b.ps.length<=i:=Ke h;have iw:i=b.ps.length:=om;subst iw;have hPe:=Ud hP;have eE:aw prog 0 abz (ow (aw prog 0 Uc) (MR Q)) ⟨eN 1 0 1,jN ⟨b.l,b.ops,P⟩⟩:=by rw[hPe];exact afV (XU b) hb.cl Q hQ
  refine⟨_,View.o1 5 [0,1,2,3,4] [] (wW b.l b.ops P 5 []),eE⟩
def E21(k:Kx):List CV:=aX (aX (fT [cA k.l k.ops k.ps] (gP 283 .undef)) 1 (p0 0)) 2 (p0 1)
theorem Ue(k:Kx)(hk:CT k)(K:Ex->St->Prop)(hK:∀b,Fh k b->CT b->afM b K):
  aw prog 0 G21 K ⟨E21 k,[kB k.l k.ops k.ps,fY]⟩:=by
 refine ar (λa:StO=>CT a.k/\(a.bR=true->XQ k a.k)/\(a.bR=false->Fh k a.k)) [1,2] (λa=>[(3,aq a.bR)]) hdM (λa=>if a.bR then iO a.k.ps+1 else 0) ⟨k,true⟩ ⟨hk,λ_=>.refl,λh=>by cases h⟩ ?_ (λa hJ=>?_)
 .refine View.o1 2 [0,1] [] ?_
  .exact .au
 obtain⟨a,bR⟩:=a;obtain⟨hz,hT,hF⟩:=hJ;cases bR with
 |false=>
  refine hK a (hF rfl) hz _ _ (View.o1 5 [0,1,2,3,4] [] ?_)
  .exact .au
 |true=>
  have hT:=hT rfl;refine afK a hz _ λL hL Q hQ e m hv=>?_
  generalize hb:(⟨q8 L a.l,qn Q a.ops,z7 (q8 L a.l) a.ps⟩:Kx)=b;have hs:∀x,x=C9 (q8 L a.l) a.ps a.ps.length->tW a b x:=λx hx=>by subst hb;exact⟨⟨L,Q,hL,hQ,rfl,rfl⟩,rfl,hx⟩
  cases hm:C9 (q8 L a.l) a.ps a.ps.length with
  |false=>
   rw[hm]at hv;have s:=hs false hm.symm;refine⟨⟨b,false⟩,⟨s.sz hz,(λh=>by cases h),λ_=>⟨a,hT,s⟩⟩,(show 0<iO a.ps+1 by omega),?_⟩
   subst hb;exact hv
  |true=>
   rw[hm]at hv;have s:=hs true hm.symm;refine⟨⟨b,true⟩,⟨s.sz hz,λ_=>.step hT s,λh=>by cases h⟩,(show iO b.ps+1<iO a.ps+1 by have:=s.abw;omega),?_⟩
   subst hb;refine View.trans hv (View.o1 5 [0,1] [2,3,4] (afL ⟨q8 L a.l,qn Q a.ops,z7 (q8 L a.l) a.ps⟩))
theorem Fi(k:Kx)(hk:CT k):body prog c8 [cA k.l k.ops k.ps] [] (λr m=>∃c,(∃b,Fh k b/\CT b/\c=Yt b)/\cH m r c):=
 Ue k hk _ λb hf hz e m hv=>⟨_,hv,afW b hz (λc=>∃b,Fh k b/\CT b/\c=Yt b) ⟨b,hf,hz,rfl⟩⟩
theorem MS(k:Kx)(hk:CT k){m:Mem}{K:CV->Mem->Prop}(h:∀b,Fh k b->CT b->K (Yt b) m):ap prog 8 [cA k.l k.ops k.ps] m K:=by
 refine aR (K0:=λr m=>∃c,(∃b,Fh k b/\CT b/\c=Yt b)/\cH m r c) (cE func8 l8 (Fi k hk)) (by simp[cA,cT,de,dZ,CV.cW,CC.cW,RV.cW]) λr m1 hr=>?_
 obtain⟨c,⟨b,hf,hz,rfl⟩,hc⟩:=hr;exact⟨_,hc,h b hf hz⟩
theorem Fj{l:List Obj}{ops:List aT}{ps:List aL}{b:Mk}{L:List Nat}(hm:gm l ops ps b)(hr:ij l ops ps L){n:Nat}(h:n∈L):dv b.O n:=
 hr.H2.iC _ _ hm.cl hm.nR n h
theorem wT{ops:List aT}{c:Nat}{o:aT}(h:ops[c]? =some o):dO ops (c:Nat)=o.obj:=by
 rw[dO,if_pos om,show((c:Nat):Int).toNat=c from by omega,h]
theorem Kg{l:List Obj}{ops:List aT}{ps:List aL}{b:Mk}{L:List Nat}(hm:gm l ops ps b)(hr:ij l ops ps L):OC (λn=>n∈L) (λc=>T2 l ps L l.length 0 (c:Nat)) b:=by
 refine hm.iC _ _ ⟨λi o hi ho z n hz hn=>hr.ce i o hi ho z hz n hn,λi o hi ho z c hz hc=>?_,λc o hc ho n hn=>?_⟩ ⟨hr.H2.ay,λp pr hp hl s hs hh c hc=>?_⟩
 .obtain⟨q,hq,hh,rfl⟩:=hz;obtain⟨k,hk⟩:=ac4.1 hq;have eR:=(Lw.1 ho).1;exact .inr ⟨i,o,k,q,hi,ho,hk,hh,.inl eR,hc.1.symm⟩
 .rcases hc with⟨i,pr,k,s,h1,h2,h3,h4,_,h6⟩|⟨i,o2,k,q,h1,h2,h3,h4,_,h6⟩
  .exact hr.cp i pr h1 h2 s (Vm h3) h4 n (by rw[<-h6,wT ho];exact hn)
  .exact hr.cq i o2 h1 h2 q (Vm h3) h4 n (by rw[<-h6,wT ho];exact hn)
 .obtain⟨k,hk⟩:=ac4.1 hs;have Mc:=(Lw.1 hp).1;exact .inl ⟨p,pr,k,s,hp,hl,hk,hh,.inl Mc,hc.1.symm⟩
theorem QU{l:List Obj}{ops:List aT}{ps:List aL}{b:Mk}{L:List Nat}(hm:gm l ops ps b)(hr:ij l ops ps L)(n:Nat):n∈L↔dv b.O n:=
 ⟨Fj hm hr,(Kg hm hr).1 n⟩
theorem QW{l:List Obj}{ops:List aT}{ps:List aL}{b:Mk}{L:List Nat}{Q:List Int}(hm:gm l ops ps b)(hr:ij l ops ps L)(hQ:wV l ps L Q){c:Nat}(hc:c<ops.length):o9 Q (c:Nat)=true↔dv b.P c:=by
 rw[hQ (c:Nat)];constructor
 .rintro(⟨i,pr,k,s,h1,h2,h3,h4,_,h6⟩|⟨i,o2,k,q,h1,h2,h3,h4,_,h6⟩)
  .exact hm.nR.2 i pr h1 h2 s (Vm h3) h4 c ⟨h6.symm,hc⟩
  .exact hm.cl.q i o2 (Fj hm hr h1) h2 q.b8 c ⟨q,Vm h3,h4,rfl⟩ ⟨h6.symm,hc⟩
 .exact(Kg hm hr).2 c
structure Uf(l:List Obj):Prop where
 z:∀o,o∈l->o.ah=0->o=dS
 p:∀o,o∈l->o.ah=4->o.aG= -1\/∃(i:Nat)(x:Obj),o.aG=(i:Int)/\l[i]? =some x/\x.ah≠0
theorem ko{L:List Bool}{i:Nat}:(L[i]? ==some true)=true↔dv L i:=by
 unfold dv;cases L[i]? with
 |none=>simp
 |some x=>cases x<;>simp
theorem CW{L:List Bool}{i:Nat}(h:¬dv L i):(!(L[i]? ==some true))=true:=by
 cases hb:(L[i]? ==some true)with
 |false=>rfl
 |true=>exact absurd (ko.1 hb) h
theorem MT{l:List Obj}{ops:List aT}{ps:List aL}{b:Mk}{L:List Nat}(hm:gm l ops ps b)(hr:ij l ops ps L)(hk:Uf l){i:Nat}{o:Obj}(ho:l[i]? =some o):cF b l l.length i o=Bu L i o:=by
 have hi:=(Lw.1 ho).1;have XV:=QU hm hr;by_cases hL:i∈L
 .have ip:m4 L (i:Nat)=true:=fx.2 hL;have hb:(b.O[i]? ==some true)=true:=ko.2 ((XV i).1 hL);have hd:dH b l i=false:=by rw[dH,ho];simp[hb]
  rw[Bu,ip,cF,hd];simp only[Bool.false_and,acj,if_false];by_cases h4:o.ah=4
  .rcases hk.p o (Vm ho) h4 with hp|⟨j,x,hp,hx,Xb⟩
   .have e:({o with aG:= -1}:Obj)=o:=by rw[<-hp]
    rw[e];simp
   .have hj:=(Lw.1 hx).1;have hz:lg b l l.length o.aG= !(m4 L o.aG):=by
     rw[hp,lg];have e1:decide (0<=(j:Int)/\(j:Int).toNat<l.length)=true:=decide_eq_true ⟨om,om⟩;rw[e1,show(j:Int).toNat=j from by omega,dH,hx,acG]
     have e2:(x.ah !=0)=true:=by simpa using Xb
     show(!(b.O[j]? ==some true)&&x.ah !=0)=_;rw[e2,aez];cases Ya:m4 L (j:Nat)with
     |true=>rw[ko.2 ((XV j).1 (fx.1 Ya))]
     |false=>
      rw[CW λh=>by rw[fx.2 ((XV j).2 h)]at Ya;cases Ya]
      rfl
    rw[hz];cases hq:m4 L o.aG<;>simp[h4]
  .simp[h4]
 .have ip:m4 L (i:Nat)=false:=by
   cases h:m4 L (i:Nat)with
   |false=>rfl
   |true=>exact absurd (fx.1 h) hL
  have hb:(!(b.O[i]? ==some true))=true:=CW λh=>hL ((XV i).2 h)
  rw[Bu,ip,if_pos rfl,cF];by_cases h0:o.ah=0
  .have hz:=hk.z o (Vm ho) h0;have hd:dH b l i=false:=by rw[dH,ho];simp[h0]
   rw[hd,hz];simp[dS]
  .have hd:dH b l i=true:=by rw[dH,ho];show(!(b.O[i]? ==some true)&&o.ah !=0)=true;rw[hb];simpa using h0
   rw[hd,decide_eq_true hi];rfl
theorem Uf.round{l:List Obj}{ops:List aT}{ps:List aL}{L:List Nat}(hk:Uf l)(hr:ij l ops ps L):Uf (q8 L l):=by
 refine⟨λo ho h0=>?_,λo ho h4=>?_⟩
 .obtain⟨i,x,hx,rfl⟩:=mB ho;unfold Bu at h0|-;split at h0
  .rw[if_pos (by assumption)]
  .rename_i ip;have ip:i∈L:=fx.1 (by simpa using ip)
   obtain⟨_,o2,h2,h3⟩:=hr.H2.val i ip;rw[hx]at h2;cases h2;split at h0<;>exact absurd h0 h3
 .obtain⟨i,x,hx,rfl⟩:=mB ho;unfold Bu at h4|-;split at h4
  .cases h4
  .rename_i ip;rw[if_neg ip];split at h4
   .rename_i hc;rw[if_pos hc];exact .inl rfl
   .rename_i hc;rw[if_neg hc];rcases hk.p x (Vm hx) h4 with hp|⟨j,y,hp,hy,Mm⟩
    .exact .inl hp
    .have hj:m4 L (j:Nat)=true:=by
      cases h:m4 L (j:Nat)with
      |true=>rfl
      |false=>exact absurd ⟨h4,by rw[hp];exact h⟩ hc
     refine .inr ⟨j,Bu L j y,hp,by rw[q8,ab1,hy];rfl,?_⟩
     unfold Bu;rw[hj,if_neg aD];split<;>exact Mm
theorem Bw(l':List Obj)(ps:List aL):∀k,iT l' ps k=C9 l' ps k
 |0=>rfl
 |k+1=>by have ih:=Bw l' ps k;rw[C9,<-ih];unfold iT;rw[ads,List.any_append,ad6,List.any_nil,Bool.or_false,Bool.or_comm];rfl
theorem jZ{α:Type}{l L:List α}{f:Nat->α->α}(h:Pt l L f):L=l.mapIdx f:=by
 refine ab4 λi=>?_
 rw[ab1];cases hx:l[i]? with
 |none=>exact acq.2 (by rw[h.1];exact acq.1 hx)
 |some x=>rw[h.2 i x hx];rfl
theorem qT{α β:Type}{f g:Nat->α->β}{l:List α}(h:∀(i:Nat)x,l[i]? =some x->f i x=g i x):l.mapIdx f=l.mapIdx g:=by
 refine ab4 λi=>?_
 rw[ab1,ab1];cases hx:l[i]? with
 |none=>rfl
 |some x=>rw[aa3,aa3,h i x hx]
theorem oW{l:List Obj}{ops:List aT}{ps:List aL}{O:List Obj}{O2:List aT}{O3:List aL}{en:Bool}(h:cL l ops ps O O2 O3 en)(hk:Uf l){b:Kx}{bR:Bool}(s:tW ⟨l,ops,ps⟩ b bR):
  O=b.l/\O2=b.ops/\O3=b.ps/\en=bR/\Uf b.l:=by
 obtain⟨⟨mk,hm,hO,hO2⟩,hO3,l4⟩:=h;obtain⟨⟨L,Q,hr,hQ,e1,e2⟩,e3,e4⟩:=s;have hr:ij l ops ps L:=hr;have hQ:wV l ps L Q:=hQ;have e1:b.l=q8 L l:=e1;have e2:b.ops=qn Q ops:=e2;have a1:O=b.l:=by rw[jZ hO,e1,q8];exact qT λi o ho=>MT hm hr hk ho
 have a2:O2=b.ops:=by
  rw[jZ hO2,e2,qn];refine qT λi o ho=>?_
  have hi:=(Lw.1 ho).1;have XV:=QW hm hr hQ hi;rw[zT,Is,decide_eq_true hi,acG];cases hq:o9 Q (i:Nat)with
  |true=>rw[ko.2 (XV.1 hq)];rfl
  |false=>
   rw[CW λh=>by rw[XV.2 h]at hq;cases hq]
   rfl
 have a3:O3=b.ps:=by
  rw[jZ hO3,e3,a1,z7];refine qT λi o ho=>?_
  have hi:=(Lw.1 ho).1;rw[wM,QQ,decide_eq_true hi,acG];rfl
 refine⟨a1,a2,a3,?_,by rw[e1];exact hk.round hr⟩
 rw[l4,e4,a1];exact Bw b.l ps ps.length
theorem qt{α:Type}{q:Nat->α->Bool}{mn:Nat}{L:List α}{a b:Nat}(ha:jG q mn L a)(hb:jG q mn L b):a=b:=by
 have key:∀{a b:Nat},jG q mn L a->jG q mn L b->¬a<b:=λ{a b}ha hb ax=>by
  have h1:=ha.t.mn;have h2:=hb.t.le;rcases hb.e with h3|⟨o,ho,hq⟩
  .omega
  .have:=ha.t.dr (b-1) o om ho;rw[hq]at this;cases this
 have h1:=key ha hb;have h2:=key hb ha;omega
structure QX{α:Type}(g:Nat->α->Bool)(n0:Nat)(L:List α)(k N:Nat):Prop where
 lo:n0<=N
 hi:N<=n0\/N<=k
 dr:∀t x,N<=t->t<k->L[t]? =some x->g t x=false
 ls:N=n0\/∃x,L[N-1]? =some x/\g (N-1) x=true/\0<N
theorem pN{α:Type}{f:Nat->Nat->α->Nat}{g:Nat->α->Bool}{n0:Nat}{L:List α}(h0:∀t x,t<n0->g t x=false)(hf:∀n i x,n0<=n->(n<=n0\/n<=i)->f n i x=if g i x=true then i+1 else n):∀k,k<=L.length->QX g n0 L k (fZ f n0 L k)
 |0,_=>⟨aai _,.inl (aai _),λt x _ h=>absurd h (abE t),.inl rfl⟩
 |k+1,hk=>by
  have ih:=pN (f:=f) (g:=g) (L:=L) h0 hf k om;have ax:k<L.length:=hk;rw[qS ax,hf _ k _ ih.lo ih.hi];cases hg:g k L[k]with
  |true=>
   have hn:n0<=k:=by
    rcases aax k n0 with h|h
    .rw[h0 k _ h]at hg;cases hg
    .exact h
   rw[if_pos rfl];exact⟨om,.inr (aai _),λt x h1 h2=>om,.inr ⟨L[k],wy ax,hg,om⟩⟩
  |false=>
   rw[if_neg aD];refine⟨ih.lo,by have:=ih.hi;omega,λt x h1 h2 hx=>?_,ih.ls⟩
   by_cases ht:t=k
   .subst ht;rw[wy ax]at hx;cases hx;exact hg
   .exact ih.dr t x h1 om hx
theorem QX.tru{α:Type}{g q:Nat->α->Bool}{n0:Nat}{L:List α}{N:Nat}(h:QX g n0 L L.length N)(h0:∀t x,t<n0->g t x=false)(hq:∀t x,n0<=t->q t x= !(g t x)):jG q n0 L (dB N L.length):=by
 have KK:dB N L.length=N\/(L.length<N/\dB N L.length=L.length):=by
  unfold dB;split
  .exact .inr ⟨om,rfl⟩
  .exact .inl rfl
 have ix:=h.lo;have hle:=u7 N L.length;refine⟨⟨hle,by rcases KK with e|⟨_,e⟩<;>omega,λt x ht hx=>?_⟩,?_⟩
 .have Jf:=(Lw.1 hx).1;have hN:N<=t:=by rcases KK with e|⟨_,e⟩<;>omega
  rw[hq t x om,h.dr t x hN Jf hx];rfl
 .rcases h.ls with e|⟨x,hx,hg,hp⟩
  .left;rcases KK with e2|⟨_,e2⟩<;>omega
  .right;have hxl:=(Lw.1 hx).1;have e:dB N L.length=N:=by rcases KK with e|⟨_,e⟩<;>omega
   rw[e];refine⟨x,hx,?_⟩;have:n0<=N-1:=by
    rcases aax (N-1) n0 with h1|h1
    .rw[h0 _ x h1]at hg;cases hg
    .exact h1
   rw[hq _ x this,hg];rfl
theorem afZ(l:List Obj):jG qO 1 l (dB (fZ nF 1 l l.length) l.length):=by
 have h0:∀t(x:Obj),t<1->(λ(i:Nat)(o:Obj)=>decide (1<=i)&&o.ah !=0) t x=false:=λt x h=>by have:t=0:=om;subst this;rfl
 refine(pN (g:=λi o=>decide (1<=i)&&o.ah !=0) h0 (λn i x h1 h2=>?_) l.length (aai _)).tru h0 λt x ht=>?_
 .unfold nF;by_cases hk:x.ah=0
  .simp[hk]
  .by_cases hi:1<=i
   .rw[if_pos ⟨hk,om⟩,if_pos (by simp[hi,hk])]
   .rw[if_neg (λh=>by have:=h.2;omega),if_neg (by simp[hi])]
 .simp[qO,ht,bne]
theorem af0(ops:List aT):jG qP 0 ops (fZ oF 0 ops ops.length):=by
 have h:=(pN (f:=oF) (g:=λ(_:Nat)(o:aT)=>decide (0<=o.obj)) (n0:=0) (L:=ops) (λt x h=>absurd h (abE t)) (λn i x h1 h2=>by unfold oF;by_cases h:0<=x.obj<;>simp[h]) ops.length (aai _)).tru (q:=qP) (λt x h=>absurd h (abE t)) λt x ht=>by
  unfold qP;by_cases h:0<=x.obj
  .simp[h]
  .simp[h];omega
 have e:dB (fZ oF 0 ops ops.length) ops.length=fZ oF 0 ops ops.length:=by have:=CU ops ops.length;unfold dB;rw[if_neg om]
 rw[e]at h;exact h
theorem af1(l:List Obj)(ps:List aL):jG (qR l) 1 ps (dB (fZ (pF l) 1 ps ps.length) ps.length):=by
 have h0:∀t(x:aL),t<1->Rs l t x=false:=λt x h=>by have:t=0:=om;subst this;rfl
 refine(pN (g:=Rs l) h0 (λn i x h1 h2=>rfl) ps.length (aai _)).tru h0 λt x ht=>?_
 unfold qR Rs;rw[decide_eq_true (by omega:0<t),acG,Bool.not_or]
theorem MU{l:List Obj}{n:Nat}(h:jG qO 1 l n)(p:Int):(l.take n).any (cN p)=l.any (cN p):=by
 cases hb:l.any (cN p)with
 |false=>
  rw[aeD]at hb|-;exact λx hx=>hb x (ab0 hx)
 |true=>
  rw[abP]at hb|-;obtain⟨x,hx,hh⟩:=hb;obtain⟨t,ht⟩:=ac4.1 hx;refine⟨x,?_,hh⟩;rcases aax t n with h2|h2
  .exact Vm (by rw[aca h2];exact ht)
  .have:=h.t.dr t x h2 ht;unfold qO at this;unfold cN at hh;have h3:x.ah=0:=by simpa using this
   rw[h3]at hh;cases hh
theorem MV{k a:Kr}(h:gT k a):a=k\/∃x,cL k.l k.ops k.ps x.l x.ops x.ps true/\gT x a:=by
 induction h with
 |refl=>exact .inl rfl
 | @step a b h s ih=>
  rcases ih with rfl|⟨x,hx,So⟩
  .exact .inr ⟨b,s,.refl⟩
  .exact .inr ⟨x,hx,.step So s⟩
theorem Fk{k a:Kx}(h:XQ k a):a=k\/∃x,tW k x true/\XQ x a:=by
 induction h with
 |refl=>exact .inl rfl
 | @step a b h s ih=>
  rcases ih with rfl|⟨x,hx,So⟩
  .exact .inr ⟨b,s,.refl⟩
  .exact .inr ⟨x,hx,.step So s⟩
theorem Fl:∀(n:Nat)(l:List Obj)(ops:List aT)(ps:List aL),iO ps=n->Uf l->∀(a c:Kr),gT ⟨l,ops,ps⟩ a->cL a.l a.ops a.ps c.l c.ops c.ps false->∀b,Fh ⟨l,ops,ps⟩ b->c.l=b.l/\c.ops=b.ops/\c.ps=b.ps:=by
 intro n
 induction n using Nat.strongRecOn with
 |_ n ih=>
  intro l ops ps hn hk a c ha hc b ⟨a',ha',hb⟩;rcases MV ha with rfl|⟨x,hx,So⟩
  .rcases Fk ha' with rfl|⟨y,hy,hya⟩
   .obtain⟨h1,h2,h3,_,_⟩:=oW hc hk hb;exact⟨h1,h2,h3⟩
   .have:=(oW hc hk hy).2.2.2.1;cases this
  .rcases Fk ha' with rfl|⟨y,hy,hya⟩
   .have:=(oW hx hk hb).2.2.2.1;cases this
   .obtain⟨h1,h2,h3,_,lS⟩:=oW hx hk hy;have abC:=hy.abw;obtain⟨xl,xo,xp⟩:=x;obtain⟨yl,yo,yp⟩:=y;cases h1;cases h2;cases h3;exact ih (iO xp) (by rw[<-hn];exact abC) xl xo xp rfl lS a c So hc b ⟨a',hya,hb⟩
theorem Fm{k a c d:Kr}(hk:Uf k.l)(ha:gT k a)(hc:cL a.l a.ops a.ps c.l c.ops c.ps false)(hd:gU c d){b:Kx}(hb:Fh ⟨k.l,k.ops,k.ps⟩ b):cA d.l d.ops d.ps=Yt b:=by
 obtain⟨e1,e2,e3⟩:=Fl _ k.l k.ops k.ps rfl hk a c ha hc b hb;obtain⟨n1,n2,n3,P,h1,h2,hP,h3,rfl⟩:=hd;obtain⟨cl,co,cp⟩:=c;obtain⟨bl,bo,bp⟩:=b;cases e1;cases e2;cases e3;have h1:jG qO 1 cl n1:=h1;have h2:jG qP 0 co n2:=h2;have hP:Pt cp P (gd (cl.take n1) cp.length):=hP;have h3:jG (qR (cl.take n1)) 1 P n3:=h3;have hh:=MU h1;have hPe:P=cp.mapIdx (Rt cl):=by
  rw[jZ hP];refine qT λi x hx=>?_
  have hi:=(Lw.1 hx).1;rw[gd,Rt,decide_eq_true hi,acG,qZ,hh,Vt]
 have hqR:qR (cl.take n1)=qR cl:=by funext t o;rw[qR,qR,hh]
 rw[hqR]at h3;subst hPe;have t1:=qt h1 (afZ cl);have t2:=qt h2 (af0 co);have t3:=qt h3 (af1 cl (cp.mapIdx (Rt cl)));subst t1 t2 t3;rfl
namespace Kn
theorem KI.af2{k:Kr}(h:KI k):Uf k.l:=by
 refine⟨h.z,λo ho hk=>?_⟩
 obtain⟨i,hi⟩:=aak ho;rcases h.pe i o hi hk with e|⟨j,x,e,hx,hx4,-⟩
 .exact .inl e
 .exact .inr ⟨j,x,e,hx,om⟩
theorem Ug(k:Kr)(h:KI k){m:Mem}{K:CV->Mem->Prop}(hK:K (cA (eC k).l (eC k).ops (eC k).ps) m):ap prog 8 [cA k.l k.ops k.ps] m K:=by
 obtain⟨a,c,h1,h2,h3⟩:=(eP h.kr).ex;refine MS ⟨k.l,k.ops,k.ps⟩ ?_ λb hb _=>?_
 .exact⟨h.sm,by have:=h.ll;show k.l.length<=4194304;omega,by have:=h.lo;show k.ops.length<=4194304;omega,by have:=h.lp;show k.ps.length<=4194304;omega,λp hp=>by have:=h.sl p hp;omega⟩
 .rw[<-Fm h.af2 h1 h2 h3 hb];exact hK
end Kn
end Go.Proofs.YtllkfpggoigbaaaGreatDoor
