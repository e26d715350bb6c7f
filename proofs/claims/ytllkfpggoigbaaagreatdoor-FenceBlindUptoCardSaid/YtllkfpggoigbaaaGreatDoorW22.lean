/- Part 22 of 23. -/
import Derived.Test.YtllkfpggoigbaaaGreatDoorW11
import Derived.Test.YtllkfpggoigbaaaGreatDoorW12
import Derived.Test.YtllkfpggoigbaaaGreatDoorW13
import Derived.Test.YtllkfpggoigbaaaGreatDoorW20
import Derived.Test.YtllkfpggoigbaaaGreatDoorW21
set_option linter.unusedVariables false
set_option linter.unusedSimpArgs false
set_option maxRecDepth 100000
set_option maxHeartbeats 0
namespace Go.Proofs.YtllkfpggoigbaaaGreatDoor
open Proofs.Tryz
open Go.AM Go.ChangeShapes Go.WideShapes Go.ChangeAt Go.RowKit
def c23:LF:=Cq prog Tryz.f23 [[3,0]] []
theorem l23:bA prog Tryz.f23=some c23.er:=by kernel_rfl
def R47:LC:=mK (pb (bs (bs (bs c23.code))))
def F47:LC:=bs (bs (bs (bs c23.code)))
def E47(l:List Obj)(ops:List aV)(ps:List aM):Ex->St->Prop:=oi prog c23.mr λr m=>∃r' m',View 0 ⟨[r],m⟩ ⟨[r'],m'⟩/\I5 l ops ps r' m'
theorem I6(l:List Obj)(ops:List aV)(ps:List aM)(g:∀o,o∈l->o.sm)(hl:l.length<=4194304)(fb:ps.length<=4194304)(jB:∀p,p∈ps->p.ap.length<=4194304)(L0:List Nat)(h0:I3 l ops ps L0):
  aw prog 0 R47 (oX (aw prog 0 F47) (E47 l ops ps)) ⟨jD 101 [(1,.rv (.one (.ptr 0 0))),(3,.rv (.one (.ptr 2 0)))],[kB l ops ps,.mp (L0.map gd),iC]⟩:=by
 refine ax (λa:List Nat×Bool=>I3 l ops ps a.1/\(a.2=false->iM l ops ps a.1)) [1,3] (λ_=>[(4,.rv (.one (.ptr 3 0)))]) (λa=>[kB l ops ps,.mp (a.1.map gd),iC,gk a.2])
  (λa=>2*RI l.length a.1+(if a.2 then 1 else 0)) (L0,true) ⟨h0,(λh=>by cases h)⟩ ?_ (λa hJ=>?_)
 .refine View.o1 4 [0,1,2,3] [] ?_
  .exact .pt rfl rfl (.eq rfl (by simp[kB])) (.pt rfl rfl (.eq (dn _) aG) (.pt rfl rfl (.eq rfl (by simp[iC])) (.pt rfl rfl (.eq rfl (by simp[gk])) (.nil _))))
 obtain⟨LA,bX⟩:=a;obtain⟨hI,hC⟩:=hJ;cases bX with
 |false=>
  exact⟨.rv (.one (.map 0)),[.mp (LA.map gd)],View.o 4 [1] [] (.eq rfl .nil) (.pt rfl rfl (.eq (dn _) aG) (.nil _)),LA,hC rfl,rfl,rfl⟩
 |true=>
  have hI:I3 l ops ps LA:=hI;clear hC;refine ax (λa:I4=>a.i<=ps.length/\vW l ops ps LA a.L a.bX/\p8 l (S1 ops ps a.i 0) a.L) [1,3,4,5,6,35,36] (λa=>[(37,am .i64 (a.i:Nat))]) (M5 l ops ps) (λa=>ps.length-a.i) ⟨0,LA,false⟩
   ⟨aad _,⟨hI,λ_ h=>h,λ_=>rfl,(λh=>by cases h)⟩,λz hz=>absurd hz U0⟩ ?_ (λa hJ=>?_)
  .refine View.o1 5 [0,1,2,3,4] [] (Uj l ops ps LA false 5 [])
  obtain⟨p,L,bX⟩:=a;obtain⟨hp,hP,hD⟩:=hJ;have hp:p<=ps.length:=hp;have hP:vW l ops ps LA L bX:=hP;have hD:p8 l (S1 ops ps p 0) L:=hD;refine an (λh=>?_) (λh=>?_)
  .have gA:p<ps.length:=by have h:(p:Int)<((ps.map aM.enc).length:Int):=h;rw[P2]at h;omega
   have oD:=xm gA;have nT:=jB _ (aaP gA);have hg:cH (ps.map aM.enc) (p:Nat)=some (ps[p].enc):=by rw[aY,Rn,oD];rfl
   generalize ps[p]=pr at oD hg nT;obtain⟨aF,fenced,code,ap⟩:=pr;have nT:ap.length<=4194304:=nT;refine af (x:=[.val (.bool aF),.val (.bool fenced),.val (.int .i64 code),ip ap]) hg ?_;refine ax (λa:I4=>a.i<=ap.length/\vW l ops ps LA a.L a.bX/\p8 l (S1 ops ps p a.i) a.L) [1,3,4,5,6,8,35,36,37,42,43] (λa=>[(44,am .i64 (a.i:Nat))]) (M6 l ops ps [.val (.bool aF),.val (.bool fenced),.val (.int .i64 code),ip ap]) (λa=>ap.length-a.i) ⟨0,L,bX⟩
    ⟨aad _,hP,hD⟩ ?_ (λa hJ=>?_)
   .refine View.o1 6 [0,1,2,3,4,5] [] (UZ l ops ps L bX [.val (.bool aF),.val (.bool fenced),.val (.int .i64 code),ip ap] 6 [])
   clear hP hD;obtain⟨j,L,bX⟩:=a;obtain⟨hj,hP,hD⟩:=hJ;have hj:j<=ap.length:=hj;have hP:vW l ops ps LA L bX:=hP;have hD:p8 l (S1 ops ps p j) L:=hD;refine an (λgH=>?_) (λgH=>?_)
   .have bV:j<ap.length:=by have h:(j:Int)<((ap.map dX.enc).length:Int):=gH;rw[P2]at h;omega
    have hs:=xm bV;have qn:cH (ap.map dX.enc) (j:Nat)=some (ap[j].enc):=by rw[aY,Rn,hs];rfl
    generalize ap[j]=s at hs qn;obtain⟨has,ct,rts⟩:=s;refine af (x:=[.val (.bool has),.val (.int .i64 ct),.val (.int .i64 rts)]) qn ?_;have skip:¬(aF=true/\has=true)->p8 l (S1 ops ps p (j+1)) L:=λhn=>hD.mono λy hy=>by
     rcases KX oD hs hy with h|⟨h1,h2,_⟩
     .exact h
     .exact absurd ⟨h1,h2⟩ hn
    refine aC (λbR=>?_) (λbR=>?_)
    .refine aC (λhh=>?_) (λhh=>?_)
     .refine KV l ops ps ct rts L bX [.var [.ai (.val (.bool aF)),.ai (.val (.bool fenced)),.ai (.val (.int .i64 code)),.ai (ip ap)],.var [.ai (.val (.bool has)),.ai (.val (.int .i64 ct)),.ai (.val (.int .i64 rts))]] ?_;refine⟨⟨j+1,cW l (ek ops ct) L,io l (ek ops ct) L bX⟩,⟨bV,hP.mark (Nz oD hs bR hh L),hD.mark λy hy=>?_⟩,(show ap.length-(j+1)<ap.length-j by omega),View.o 7 [0,1,2,3,4,5] [] ?_ (UZ l ops ps _ _ [.val (.bool aF),.val (.bool fenced),.val (.int .i64 code),ip ap] 7 _)⟩
      .rcases KX oD hs hy with h|⟨_,_,h⟩
       .exact .inl h
       .exact .inr h
      .repeat(first|exact .nil|refine .aL ?_|refine .put (.aO (bC om).symm) ?_|refine .eq rfl ?_)
     .refine⟨⟨j+1,L,bX⟩,⟨bV,hP,skip λh=>by rw[h.2]at hh;cases hh⟩,(show ap.length-(j+1)<ap.length-j by omega),View.o2 7 [0,1,2,3,4,5] [] (UZ l ops ps _ _ [.val (.bool aF),.val (.bool fenced),.val (.int .i64 code),ip ap] 7 _)⟩
    .refine⟨⟨j+1,L,bX⟩,⟨bV,hP,skip λh=>by rw[h.1]at bR;cases bR⟩,(show ap.length-(j+1)<ap.length-j by omega),View.o2 7 [0,1,2,3,4,5] [] (UZ l ops ps _ _ [.val (.bool aF),.val (.bool fenced),.val (.int .i64 code),ip ap] 7 _)⟩
   .have sB:j=ap.length:=by have h:¬(j:Int)<((ap.map dX.enc).length:Int):=gH;rw[P2]at h;omega
    subst sB;refine⟨⟨p+1,L,bX⟩,⟨gA,hP,hD.mono λy hy=>U1 oD hy⟩,(show ps.length-(p+1)<ps.length-p by omega),View.o2 6 [0,1,2,3,4] [] (Uj l ops ps L bX 6 _)⟩
  .have wu:p=ps.length:=by have h:¬(p:Int)<((ps.map aM.enc).length:Int):=h;rw[P2]at h;omega
   subst wu;refine ax (λa:I4=>a.i<=l.length/\vW l ops ps LA a.L a.bX/\p8 l (S2 l ops ps LA a.i 0 0) a.L) [1,3,4,5,6,61,62] (λa=>[(63,am .i64 (a.i:Nat))]) (M5 l ops ps) (λa=>l.length-a.i) ⟨0,L,bX⟩
    ⟨aad _,hP,hD.mono λy hy=>U2 hy⟩ ?_ (λa hJ=>?_)
   .refine View.o1 5 [0,1,2,3,4] [] (Uj l ops ps L bX 5 [])
   clear hP hD;obtain⟨i,L,bX⟩:=a;obtain⟨hi,hP,hD⟩:=hJ;have hi:i<=l.length:=hi;have hP:vW l ops ps LA L bX:=hP;have hD:p8 l (S2 l ops ps LA i 0 0) L:=hD;refine an (λh=>?_) (λh=>?_)
   .have qE:i<l.length:=by have h:(i:Int)<((l.map Obj.enc).length:Int):=h;rw[P2]at h;omega
    have ho:=xm qE;have s8:=g _ (aaP qE);have hg:=nv qE;generalize l[i]=o at ho s8 hg;obtain⟨ah,data,ag,target,aI,aj,aQ,ak,up⟩:=o;refine af hg ?_;refine af (rB (i:Int) L) ?_;obtain⟨es,oR⟩:=s8.t.2.1;have oR:ag=es.map bT:=oR;have LK:ag.length<=8:=s8.e;have JN:aj.length<=8:=s8.q;cases hN:nD L (i:Int)with
    |false=>
     have Bd:i∉LA:=λhm=>by rw[fT.2 (hP.sub i hm)]at hN;cases hN
     refine⟨⟨i+1,L,bX⟩,⟨qE,hP,hD.mono λy hy=>U3 Bd hy⟩,(show l.length-(i+1)<l.length-i by omega),View.o2 6 [0,1,2,3,4] [] (Uj l ops ps L bX 6 _)⟩
    |true=>
     have Cs:i∈L:=fT.1 hN;have iF:∀{L':List Nat},(∀n,n∈L->n∈L')->i∈L':=λh=>h i Cs
     refine ax (λa:I4=>a.i<=ag.length/\(vW l ops ps LA a.L a.bX/\i∈a.L)/\p8 l (S2 l ops ps LA i a.i 0) a.L) [1,3,4,5,6,12,61,62,63,73,74] (λa=>[(75,am .i64 (a.i:Nat))])
      (M6 l ops ps [.val (.int .i64 ah),.sl 1 data,.sl 2 ag,.val (.string target),.val (.int .i64 aI),.sl 4 (aj.map cJ.enc),.val (.int .i64 aQ),.val (.int .i64 ak),.val (.int .i64 up)]) (λa=>ag.length-a.i) ⟨0,L,bX⟩
      ⟨aad _,⟨hP,Cs⟩,hD⟩ ?_ (λa hJ=>?_)
     .refine View.o1 6 [0,1,2,3,4,5] [] (UZ l ops ps L bX [.val (.int .i64 ah),.sl 1 data,.sl 2 ag,.val (.string target),.val (.int .i64 aI),.sl 4 (aj.map cJ.enc),.val (.int .i64 aQ),.val (.int .i64 ak),.val (.int .i64 up)] 6 [])
     clear hP hD Cs iF hN;obtain⟨k,L,bX⟩:=a;obtain⟨hk,⟨hP,Cs⟩,hD⟩:=hJ;have hk:k<=ag.length:=hk;have hP:vW l ops ps LA L bX:=hP;have Cs:i∈L:=Cs;have hD:p8 l (S2 l ops ps LA i k 0) L:=hD;refine an (λef=>?_) (λef=>?_)
     .have fj:k<ag.length:=by have h:(k:Int)<(ag.length:Int):=ef;omega
      have ahr:k<es.length:=by rw[oR]at fj;simpa using fj
      have mJ:ag[k]? =some (bT es[k]):=by rw[oR,Rn,xm ahr];rfl
      have qn:cH ag (k:Nat)=some (bT es[k]):=by rw[aY];exact mJ
      generalize es[k]=e at mJ qn;obtain⟨nm,z⟩:=e;refine af (x:=[.val (.string nm),.val (.int .i64 z)]) qn ?_;refine FZ l ops ps z L bX [B2,.var [.ai (.val (.int .i64 ah)),.ai (.sl 1 data),.ai (.sl 2 ag),.ai (.val (.string target)),.ai (.val (.int .i64 aI)),.ai (.sl 4 (aj.map cJ.enc)),.ai (.val (.int .i64 aQ)),.ai (.val (.int .i64 ak)),.ai (.val (.int .i64 up))],.var [.ai (.val (.string nm)),.ai (.val (.int .i64 z))]] ?_;refine⟨⟨k+1,cW l z L,io l z L bX⟩,⟨fj,⟨hP.mark λRO RP ia _ hL n hn=>ia.e i _ (hL i Cs) ho z n ⟨nm,Wm mJ⟩ hn,mq Cs⟩,hD.mark λy hy=>Y0 ho mJ hy⟩,(show ag.length-(k+1)<ag.length-k by omega),View.o 7 [0,1,2,3,4,5] [] ?_
       (UZ l ops ps _ _ [.val (.int .i64 ah),.sl 1 data,.sl 2 ag,.val (.string target),.val (.int .i64 aI),.sl 4 (aj.map cJ.enc),.val (.int .i64 aQ),.val (.int .i64 ak),.val (.int .i64 up)] 7 _)⟩
      repeat(first|exact .nil|refine .aL ?_|refine .put (.aO (bC om).symm) ?_|refine .eq rfl ?_)
     .have oc:k=ag.length:=by have h:¬(k:Int)<(ag.length:Int):=ef;omega
      refine ax (λa:I4=>a.i<=aj.length/\(vW l ops ps LA a.L a.bX/\i∈a.L)/\p8 l (S2 l ops ps LA i ag.length a.i) a.L) [1,3,4,5,6,12,61,62,63,85,86] (λa=>[(87,am .i64 (a.i:Nat))])
       (M6 l ops ps [.val (.int .i64 ah),.sl 1 data,.sl 2 ag,.val (.string target),.val (.int .i64 aI),.sl 4 (aj.map cJ.enc),.val (.int .i64 aQ),.val (.int .i64 ak),.val (.int .i64 up)]) (λa=>aj.length-a.i) ⟨0,L,bX⟩
       ⟨aad _,⟨hP,Cs⟩,oc▸hD⟩ ?_ (λa hJ=>?_)
      .refine View.o1 6 [0,1,2,3,4,5] [] (UZ l ops ps L bX [.val (.int .i64 ah),.sl 1 data,.sl 2 ag,.val (.string target),.val (.int .i64 aI),.sl 4 (aj.map cJ.enc),.val (.int .i64 aQ),.val (.int .i64 ak),.val (.int .i64 up)] 6 [])
      clear hP hD Cs;obtain⟨q,L,bX⟩:=a;obtain⟨hq,⟨hP,Cs⟩,hD⟩:=hJ;have hq:q<=aj.length:=hq;have hP:vW l ops ps LA L bX:=hP;have Cs:i∈L:=Cs;have hD:p8 l (S2 l ops ps LA i ag.length q) L:=hD;refine an (λY1=>?_) (λY1=>?_)
      .have Y2:q<aj.length:=by have h:(q:Int)<((aj.map cJ.enc).length:Int):=Y1;rw[P2]at h;omega
       have U5:=xm Y2;have FG:cH (aj.map cJ.enc) (q:Nat)=some (aj[q].enc):=by rw[aY,Rn,U5];rfl
       generalize aj[q]=ms at U5 FG;obtain⟨mdata,has,ct,rts⟩:=ms;refine af (x:=[.sl 1 mdata,.val (.bool has),.val (.int .i64 ct),.val (.int .i64 rts)]) FG ?_;refine aC (λhh=>?_) (λhh=>?_)
       .refine KV l ops ps ct rts L bX [.var [.ai (.val (.int .i64 ah)),.ai (.sl 1 data),.ai (.sl 2 ag),.ai (.val (.string target)),.ai (.val (.int .i64 aI)),.ai (.sl 4 (aj.map cJ.enc)),.ai (.val (.int .i64 aQ)),.ai (.val (.int .i64 ak)),.ai (.val (.int .i64 up))],.var [.ai (.sl 1 mdata),.ai (.val (.bool has)),.ai (.val (.int .i64 ct)),.ai (.val (.int .i64 rts))]] ?_;refine⟨⟨q+1,cW l (ek ops ct) L,io l (ek ops ct) L bX⟩,⟨Y2,⟨hP.mark λRO RP ia _ hL n hn=>zS ia (λc hc=>ia.q i _ (hL i Cs) ho ct c ⟨_,Wm U5,hh,rfl⟩ hc) n hn,mq Cs⟩,hD.mark λy hy=>?_⟩,(show aj.length-(q+1)<aj.length-q by omega),View.o 7 [0,1,2,3,4,5] [] ?_
         (UZ l ops ps _ _ [.val (.int .i64 ah),.sl 1 data,.sl 2 ag,.val (.string target),.val (.int .i64 aI),.sl 4 (aj.map cJ.enc),.val (.int .i64 aQ),.val (.int .i64 ak),.val (.int .i64 up)] 7 _)⟩
        .rcases RL ho U5 hy with h|⟨_,h⟩
         .exact .inl h
         .exact .inr h
        .repeat(first|exact .nil|refine .aL ?_|refine .put (.aO (bC om).symm) ?_|refine .eq rfl ?_)
       .refine⟨⟨q+1,L,bX⟩,⟨Y2,⟨hP,Cs⟩,hD.mono λy hy=>?_⟩,(show aj.length-(q+1)<aj.length-q by omega),View.o 7 [0,1,2,3,4,5] [] ?_
         (UZ l ops ps _ _ [.val (.int .i64 ah),.sl 1 data,.sl 2 ag,.val (.string target),.val (.int .i64 aI),.sl 4 (aj.map cJ.enc),.val (.int .i64 aQ),.val (.int .i64 ak),.val (.int .i64 up)] 7 _)⟩
        .rcases RL ho U5 hy with h|⟨h,_⟩
         .exact h
         .have hh:has=false:=hh;have h:has=true:=h;rw[hh]at h;cases h
        .repeat(first|exact .nil|refine .aL ?_|refine .put (.aO (bC om).symm) ?_|refine .eq rfl ?_)
      .have M0:q=aj.length:=by have h:¬(q:Int)<((aj.map cJ.enc).length:Int):=Y1;rw[P2]at h;omega
       subst M0;refine⟨⟨i+1,L,bX⟩,⟨qE,hP,hD.mono λy hy=>U4 ho hy⟩,(show l.length-(i+1)<l.length-i by omega),View.o2 6 [0,1,2,3,4] [] (Uj l ops ps L bX 6 _)⟩
   .have iD:i=l.length:=by have h:¬(i:Int)<((l.map Obj.enc).length:Int):=h;rw[P2]at h;omega
    subst iD;refine⟨(L,bX),⟨hP.IJ,λhm=>?_⟩,?_,View.o 6 [0,1,2,5] [] ?_ ?_⟩
    .have hm:bX=false:=hm;have e:=hP.eq hm;rw[<-e]at hD;exact RM hP.IJ hD
    .show 2*RI l.length L+(if bX then 1 else 0)<2*RI l.length LA+(if true then 1 else 0)
     cases hm:bX with
     |true=>have:=hP.ns hm;simp;omega
     |false=>
      have e:L=LA:=hP.eq hm;rw[e];simp
    .repeat(first|exact .nil|refine .aL ?_|refine .eq rfl ?_)
    .exact .pt rfl rfl (.eq rfl (by simp[kB])) (.pt rfl rfl (.eq (dn _) aG) (.pt rfl rfl (.eq rfl (by simp[iC])) (.pt rfl rfl (.eq rfl (by simp[gk])) (.nil _))))
theorem F0(l:List Obj)(ops:List aV)(ps:List aM)(g:∀o,o∈l->o.sm)(hl:l.length<=4194304)(fb:ps.length<=4194304)(jB:∀p,p∈ps->p.ap.length<=4194304):
  body prog c23 [cA l ops ps] [] (λr m=>∃r' m',View 0 ⟨[r],m⟩ ⟨[r'],m'⟩/\I5 l ops ps r' m'):=by
 have none:(∀n,¬vO l 0 n)->I3 l ops ps []:=λh=>⟨aG,aG,λn hn=>absurd hn (h n),aG⟩
 refine an (λh=>?_) (λh=>?_)
 .have h0:0<l.length:=by have h:(((l.map Obj.enc).length:Nat):Int)>0:=h;rw[P2]at h;omega
  have ho:=xm h0;have hg:=nv h0;generalize l[0]=o at ho hg;refine af hg ?_;refine bO (λhk=>?_) (λhk=>?_)
  .refine bW [1,3] [] [kB l ops ps,.mp ([0].map gd),iC] (View.o1 3 [0,1,2] [] ?_) (I6 l ops ps g hl fb jB [0] ⟨aG,λn hn=>?_,λn hn=>?_,λRO RP _ hr n hn=>?_⟩)
   .exact .pt rfl rfl (.eq rfl (by simp[kB])) (.pt rfl rfl (.eq (dn [0]) aG) (.pt rfl rfl (.eq rfl (by simp[iC])) (.nil _)))
   .have:n=0:=by simpa using hn
    subst this;exact⟨rfl,o,ho,hk⟩
   .have:=hn.1;have:n=0:=om;simp[this]
   .have:n=0:=by simpa using hn
    subst this;exact hr.1 0 ⟨rfl,o,ho,hk⟩
  .refine bW [1,3] [] [kB l ops ps,.mp (([]:List Nat).map gd),iC] (View.o1 3 [0,1,2] [] ?_) (I6 l ops ps g hl fb jB [] (none λn hn=>?_))
   .exact .pt rfl rfl (.eq rfl (by simp[kB])) (.pt rfl rfl (.eq (dn []) aG) (.pt rfl rfl (.eq rfl (by simp[iC])) (.nil _)))
   .obtain⟨h1,o2,h2,h3⟩:=hn;have:n=0:=om;subst this;rw[ho]at h2;cases h2;exact h3 hk
 .have h0:l.length=0:=by have h:¬(((l.map Obj.enc).length:Nat):Int)>0:=h;rw[P2]at h;omega
  refine bW [1,3] [] [kB l ops ps,.mp (([]:List Nat).map gd),iC] (View.o1 3 [0,1,2] [] ?_) (I6 l ops ps g hl fb jB [] (none λn hn=>?_))
  .exact .pt rfl rfl (.eq rfl (by simp[kB])) (.pt rfl rfl (.eq (dn []) aG) (.pt rfl rfl (.eq rfl (by simp[iC])) (.nil _)))
  .obtain⟨_,o2,h2,_⟩:=hn;have:=(Mp.1 h2).1;omega
theorem NA(l:List Obj)(ops:List aV)(ps:List aM)(g:∀o,o∈l->o.sm)(hl:l.length<=4194304)(fb:ps.length<=4194304)(jB:∀p,p∈ps->p.ap.length<=4194304){m:Mem}{K:CV->Mem->Prop}(h:∀L,iM l ops ps L->K (.rv (.one (.map m.length))) (m++ [.mp (L.map gd)])):aq prog 23 [cA l ops ps] m K:=by
 refine bi [] m.length rfl rfl rfl rfl (args0:=[cA l ops ps]) rfl (λi b' hi=>by simp at hi) (K0:=I5 l ops ps)
  (bP (cN func23 l23 (F0 l ops ps g hl fb jB)) λr m1 h=>h) (λr m1 hr=>?_)
 obtain⟨L,hL,rfl,rfl⟩:=hr;refine⟨aad _,?_⟩;show K (.rv (.one (.map (m.length+(0-0))))) (gC m [(Bk.mp (L.map gd)).aO _]);rw[cw,dn];exact h L hL
def c24:LF:=Cq prog Tryz.f24 [] []
def c25:LF:=Cq prog Tryz.f25 [] []
theorem l24:bA prog Tryz.f24=some c24:=by kernel_rfl
theorem l25:bA prog Tryz.f25=some c25:=by kernel_rfl
def nf(z:Int):ME:=⟨.int .i64 z,TB⟩
def pT(Q:List Int)(z:Int):Bool:=Q.any λx=>z==x
theorem KY(z:Int):∀Q:List Int,ti (.int .i64 z) (Q.map nf)=some (if pT Q z=true then some TB else none)
 | []=>rfl
 |n::r=>by
  have ih:=KY z r;simp only[ac6,ti,nf,rP,decide_true];simp only[pT,aeI]at ih|-;by_cases h:z=n
  .subst h;simp
  .have h1:(z==n)=false:=by simpa using h
   simp only[h1,adK];exact ih
def p9(z:Int)(Q:List Int):List Int:=if pT Q z=true then Q else Q++ [z]
theorem RN(z:Int):∀Q:List Int,B8 (.int .i64 z) TB (Q.map nf)=some ((p9 z Q).map nf)
 | []=>rfl
 |n::r=>by
  have ih:=RN z r;simp only[ac6,B8,nf,rP,decide_true];by_cases h:z=n
  .subst h;have e:p9 z (z::r)=z::r:=by simp[p9,pT]
   rw[e];simp[nf]
  .have h1:(z==n)=false:=by simpa using h
   have e:p9 z (n::r)=n::p9 z r:=by
    have iF:pT (n::r) z=pT r z:=by simp only[pT,aeI,h1,adK]
    unfold p9;rw[iF];cases pT r z<;>rfl
   simp only[h1];rw[e,ih];rfl
theorem U6(x z:Int)(Q:List Int):pT (p9 x Q) z=true↔(pT Q z=true\/z=x):=by
 rw[p9];split
 .rename_i h;constructor
  .exact .inl
  .rintro(h2|rfl)
   .exact h2
   .exact h
 .simp[pT]
theorem fC{Y:Nat->Nat}(Q:List Int):(Bk.mp (Q.map nf)).aO Y= .mp (Q.map nf):=by simp[Bk.aO,RV.aO,CC.aO,nf,TB,ad3]
theorem NB(z rts:Int)(Q:List Int):body prog c24 [.rv (.agg [.ai (.val (.int .i64 z)),.ai (.val (.int .i64 rts))]),.rv (.one (.ptr 1 0))] [.mp (Q.map nf),.var [.map 0]] (λr m=>r= .bI []/\∃x,m=[.mp ((p9 z Q).map nf),.var [.map 0],x]):=by refine af (RN z Q) ?_;exact⟨rfl,_,rfl⟩
def gF:Bk:= .var [.bv,.bv,.bv]
def B3:Bk:= .var [.map 3]
theorem KZ(b0 b1 b2:Bk)(z rts:Int)(Q:List Int)(R:Mem){K:CV->Mem->Prop}(h:K (.bI []) (b0::b1::b2:: .mp ((p9 z Q).map nf)::B3::R)):
  aq prog 24 [.rv (.agg [.ai (.val (.int .i64 z)),.ai (.val (.int .i64 rts))]),.rv (.one (.ptr 4 0))] (b0::b1::b2:: .mp (Q.map nf)::B3::R) K:=by
 refine bi [3,4] (R.length+5) rfl rfl rfl (by simp[eP,Nat.blt]) (args0:=[.rv (.agg [.ai (.val (.int .i64 z)),.ai (.val (.int .i64 rts))]),.rv (.one (.ptr 1 0))]) rfl (m0:=[.mp (Q.map nf),.var [.map 0]]) (λi b' hi=>?_)
  (K0:=λr m=>r= .bI []/\m=[.mp ((p9 z Q).map nf),.var [.map 0]])
  (bP (aR func24 l24 (NB z rts Q)) (λr m1 hr=>?_)) (λr m1 hr=>?_)
 .match i,hi with
  |0,hi=>cases hi;exact .inr ⟨λh=>h,_,rfl,.eq (fC Q) aG⟩
  |1,hi=>cases hi;exact .inr ⟨λh=>h,_,rfl,.eq rfl aG⟩
  |n+2,hi=>simp at hi
 .obtain⟨rfl,x,rfl⟩:=hr;exact⟨.bI [],[.mp ((p9 z Q).map nf),.var [.map 0]],View.o 3 [0,1] [] (.eq rfl .nil) (.pt rfl rfl (.eq (fC _) aG) (.pm rfl rfl rfl)),rfl,rfl⟩
 .obtain⟨rfl,rfl⟩:=hr;refine⟨aah _,?_⟩;show K (.bI []) (b0::b1::b2::(Bk.mp ((p9 z Q).map nf)).aO (sg [3,4] (R.length+5))::B3::gC R []);rw[fC,cw,adn];exact h
theorem I7(l:List Obj)(hl:l.length<=4194304)(p:Int):body prog c25 [cQ l,am .i64 p] [] (λr m=>r=ar (l.any (cD p))):=by
 refine ax (λk=>k<=l.length/\∀(j:Nat)o,j<k->l[j]? =some o->cD p o=false) [0,1,7,8] (λk=>[(9,am .i64 (k:Nat))]) (λ_=>[]) (λk=>l.length-k) 0 ⟨aad _,λj o h=>absurd h (abq j)⟩ ?_ (λk hk=>?_)
 .refine View.o1 0 [] [] (.nil _)
 obtain⟨ef,Br⟩:=hk;have ef:k<=l.length:=ef;refine an (λh=>?_) (λh=>?_)
 .have ay:k<l.length:=by have h:(k:Int)<((l.map Obj.enc).length:Int):=h;rw[P2]at h;omega
  have ho:=xm ay;have hg:=nv ay;have lE:=aaP ay;generalize l[k]=o at ho hg lE;obtain⟨ah,data,ag,target,aI,aj,aQ,ak,up⟩:=o;refine af hg ?_;have next:cD p ⟨ah,data,ag,target,aI,aj,aQ,ak,up⟩=false->∀(j:Nat)o,j<k+1->l[j]? =some o->cD p o=false:=by
   intro hf j o hj WW;rcases aaD j k with h5|h5
   .exact Br j o h5 WW
   .have:j=k:=om;subst this;rw[ho]at WW;cases WW;exact hf
  refine bc (λh5=>?_) (λh5=>?_)
  .refine bc (λhp=>?_) (λhp=>?_)
   .show ar true=ar _;have:l.any (cD p)=true:=acf.2 ⟨_,lE,by simp only[cD];rw[show ah=5 from h5,show aQ=p from hp];simp⟩
    rw[this]
   .refine⟨k+1,⟨ay,next (by simp only[cD];rw[beq_eq_false_iff_ne.2 (show aQ≠p from hp)];simp)⟩,(show l.length-(k+1)<l.length-k by omega),View.o2 1 [] [] (.nil _)⟩
  .refine⟨k+1,⟨ay,next (by simp only[cD];rw[beq_eq_false_iff_ne.2 (show ah≠5 from h5)];simp)⟩,(show l.length-(k+1)<l.length-k by omega),View.o2 1 [] [] (.nil _)⟩
 .have oc:k=l.length:=by have h:¬(k:Int)<((l.map Obj.enc).length:Int):=h;rw[P2]at h;omega
  subst oc;show ar false=ar _;have:l.any (cD p)=false:=by rw[afw];intro o ho;obtain⟨j,hj⟩:=aag ho;simpa using Br j o (Mp.1 hj).1 hj
  rw[this]
theorem RQ(l:List Obj)(hl:l.length<=4194304)(p:Int){m:Mem}{K:CV->Mem->Prop}(h:K (ar (l.any (cD p))) m):aq prog 25 [cQ l,am .i64 p] m K:=
 bH func25 l25 rfl (aat rfl) (I7 l hl p) rfl rfl h
theorem vX(l:List Obj)(hl:l.length<=4194304)(p:Int){m:Mem}{id:Nat}(hb:dp m id=some (.row 9 (aa (l.map Obj.enc)))){K:CV->Mem->Prop}(h:K (ar (l.any (cD p))) m):aq prog 25 [.rv (.one (.row id 9 0 none)),am .i64 p] m K:=
 yE [id] (args0:=[cQ l,am .i64 p]) (RQ l hl p (K:=λr _=>r=ar (l.any (cD p))) rfl) (.put (ta.dO id (l.map Obj.enc) (by simp[bh]) hb) (.eq rfl .nil)) λr m1 hr=>by subst hr;exact⟨rfl,h⟩
def c8:LF:=Cq prog f8 [[1,1,0,1,4,0],[1,1,0,1,5,0],[1,1,0,1,7,0],[1,1,0,1,8,0],[1,1,0,1,9,0],[2,0],[4,0],[5,0],[6,0],[7]] [[(eL 6 0 (eL 10 8 (.z7 (.cons 6 (some [17,16,13,11,9,1]) (.cons 7 none (.cons 18 (some [7,13,11,9,5,4,1]) (.cons 19 none (.cons 20 none (.cons 21 (some []) .nil)))))) (.cons 18 (some [13,11,9,5,4,1]) (.cons 19 none (.cons 6 (some [19,17,16,13,11,9,1]) (.cons 7 none (.cons 20 none (.cons 21 (some []) .nil)))))))))]]
theorem l8:bA prog f8=some c8.er:=by kernel_rfl
def ac7:LC->LC
 | .block _ b=>b
 |x=>x
def ahs:LC->LC
 | .loop b=>b
 |x=>x
def B21:LC:=ac7 (bs (ahs (ac7 (bs (pb (bs c8.code))))))
def T33:LC:=bs (bs (bs (bs B21)))
def T59:LC:=bs T33
def T89:LC:=bs T59
def T90:LC:=bs T89
def Y3:LC:=bs T90
def Y4:LC:=bs Y3
def X33:LC:=mK (pb T33)
def X59:LC:=mK (pb T59)
def X90:LC:=mK (pb T90)
def ahu:LC:=mK (pb Y3)
def ahv:LC:=mK (pb Y4)
def ahw:LC:=bs Y4
def B4(L:List Nat)(i:Nat)(o:Obj):Obj:=if nD L (i:Int)=false then dU else if o.ah=4/\nD L o.aI=false then {o with aI:= -1}else o
def I8(Q:List Int)(i:Nat)(o:aV):aV:=if pT Q (i:Int)=false then⟨-1,0⟩else o
def I9(l':List Obj)(i:Nat)(p:aM):Bool:=decide (0<i)&&(p.aF&& !(l'.any (cD (i:Nat))))
def RR(l':List Obj)(i:Nat)(p:aM):aM:=if I9 l' i p=true then fI else p
def rN(L:List Nat)(l:List Obj):List Obj:=l.mapIdx (B4 L)
def rd(Q:List Int)(ops:List aV):List aV:=ops.mapIdx (I8 Q)
def AI(l':List Obj)(ps:List aM):List aM:=ps.mapIdx (RR l')
def DP(l':List Obj)(ps:List aM):Nat->Bool
 |0=>false
 |k+1=>(match ps[k]? with|some p=>I9 l' k p|none=>false)||DP l' ps k
theorem re{α β:Type}{f:Nat->α->β}{l:List α}{i:Nat}{x:α}(h:l[i]? =some x):(l.mapIdx f).take (i+1)=(l.mapIdx f).take i++ [f i x]:=
 nt (by rw[acJ,h];rfl)
def p0(id:Nat):CV:= .rv (.one (.ptr id 0))
def uP(a b c:CC):Bk:= .var [a,b,c]
def Y5(l:List Obj)(ops:List aV)(ps:List aM)(l':List Obj)(lL:List aV)(oZ:List aM):Mem:=
 [kB l ops ps,gF,.aE,.aE,.aE,uP (.row 6 9 0 none) (.row 7 2 0 none) (.row 8 4 0 none),.row 9 (aa (l'.map Obj.enc)),.row 2 (aa (lL.map aV.enc)),.row 4 (aa (oZ.map aM.enc))]
theorem ahx(l:List Obj)(ops:List aV)(ps:List aM)(fb:ps.length<=4194304)(l':List Obj)(D7:l'.length<=4194304)(lL:List aV)(K:Ex->St->Prop)(hK:∀e m,View 0 ⟨e,m⟩ ⟨jD 284 [(1,p0 0),(2,p0 1),(3,ar (DP l' ps ps.length))],[uP (.row 2 9 0 none) (.row 3 2 0 none) (.row 4 4 0 none),gF,.row 9 (aa (l'.map Obj.enc)),.row 2 (aa (lL.map aV.enc)),.row 4 (aa ((AI l' ps).map aM.enc))]⟩->K .normal ⟨e,m⟩):
  aw prog 0 ahv (oX (aw prog 0 ahw) K) ⟨jD 284 [(1,p0 0),(2,p0 1),(3,ar false),(14,p0 5)],Y5 l ops ps l' lL []⟩:=by
 refine ax (λi=>i<=ps.length) [1,2,14,142,143] (λi=>[(3,ar (DP l' ps i)),(144,am .i64 (i:Nat))]) (λi=>Y5 l ops ps l' lL ((AI l' ps).take i)) (λi=>ps.length-i) 0 (aad _) ?_ (λi hi=>?_)
 .refine View.o1 9 [0,1,2,3,4,5,6,7,8] [] ?_
  .exact .pt rfl rfl (.eq rfl (by simp[kB])) (.pt rfl rfl (.eq rfl (by simp[gF])) (.aE (.aE (.aE (.pt rfl rfl (.eq rfl (by simp[uP])) (.pr rfl rfl rfl (.pr rfl rfl rfl (.pn rfl rfl rfl))))))))
 have hi:i<=ps.length:=hi;refine an (λh=>?_) (λh=>?_)
 .have ay:i<ps.length:=by have h:(i:Int)<((ps.map aM.enc).length:Int):=h;rw[P2]at h;omega
  have hp:=xm ay;have hg:cH (ps.map aM.enc) (i:Nat)=some (ps[i].enc):=by rw[aY,Rn,hp];rfl
  generalize ps[i]=p at hp hg;have hT:(AI l' ps).take (i+1)=(AI l' ps).take i++ [RR l' i p]:=re hp;have hM:DP l' ps (i+1)=(I9 l' i p||DP l' ps i):=by rw[DP,hp]
  obtain⟨aF,fenced,code,ap⟩:=p;refine af (x:=[.val (.bool aF),.val (.bool fenced),.val (.int .i64 code),ip ap]) hg ?_;have ns:((aa (((AI l' ps).take i).map aM.enc)).length+1)*40<=140737488355328:=by rw[aJ,P2,abg];omega
  have eX:I9 l' i ⟨aF,fenced,code,ap⟩=false->∀e,i4 (sg [0,1,2,3,4,5,6,7,11] 12) [kB l ops ps,gF,.aE,.aE,.aE,uP (.row 6 9 0 none) (.row 7 2 0 none) (.row 11 4 0 none),.row 9 (aa (l'.map Obj.enc)),.row 2 (aa (lL.map aV.enc)),.aE,.var [.ai (.val (.bool aF)),.ai (.val (.bool fenced)),.ai (.val (.int .i64 code)),.ai (ip ap)],.aE,.row 4 (aa (((AI l' ps).take i).map aM.enc)++ [[.ai (.val (.bool aF)),.ai (.val (.bool fenced)),.ai (.val (.int .i64 code)),.ai (ip ap)]])] (λk=>bh [] k=true) e
     (VM [1,2,14,142,143] (jD 284 [(1,p0 0),(2,p0 1),(14,p0 5),(142,.rv (.one (.ai (dM ps)))),(143,am .i64 (ps.map aM.enc).length)]) [(3,ar (DP l' ps (i+1))),(144,am .i64 ((i+1:Nat):Int))])->
    View 0 ⟨e,[kB l ops ps,gF,.aE,.aE,.aE,uP (.row 6 9 0 none) (.row 7 2 0 none) (.row 11 4 0 none),.row 9 (aa (l'.map Obj.enc)),.row 2 (aa (lL.map aV.enc)),.aE,.var [.ai (.val (.bool aF)),.ai (.val (.bool fenced)),.ai (.val (.int .i64 code)),.ai (ip ap)],.aE,.row 4 (aa (((AI l' ps).take i).map aM.enc)++ [[.ai (.val (.bool aF)),.ai (.val (.bool fenced)),.ai (.val (.int .i64 code)),.ai (ip ap)]])]⟩
     ⟨VM [1,2,14,142,143] (jD 284 [(1,p0 0),(2,p0 1),(14,p0 5),(142,.rv (.one (.ai (dM ps)))),(143,am .i64 (ps.map aM.enc).length)]) [(3,ar (DP l' ps (i+1))),(144,am .i64 ((i+1:Nat):Int))],Y5 l ops ps l' lL ((AI l' ps).take (i+1))⟩:=by
   intro hb e he;refine View.o 12 [0,1,2,3,4,5,6,7,11] [] he ?_;refine .pt rfl rfl (.eq rfl (by simp[kB])) (.pt rfl rfl (.eq rfl (by simp[gF])) (.aE (.aE (.aE (.pt rfl rfl (.eq rfl (by simp[uP])) (.pr rfl rfl rfl (.pr rfl rfl rfl (.pt rfl rfl (.bg ?_) (.nil _)))))))))
   have e1:RR l' i ⟨aF,fenced,code,ap⟩=⟨aF,fenced,code,ap⟩:=by rw[RR,hb];rfl
   rw[hT,e1,abT,bU];rfl
  refine an (λh0=>?_) (λh0=>?_)
  .have h0:0<i:=by have h0:(i:Int)>0:=h0;omega
   refine aC (λbR=>?_) (λbR=>?_)
   .refine vX l' D7 (i:Nat) (id:=6) rfl ?_;refine aC (λhh=>?_) (λhh=>?_)
    .have hb:I9 l' i ⟨aF,fenced,code,ap⟩=true:=by simp only[I9];rw[decide_eq_true h0,bR];exact hh
     have e1:RR l' i ⟨aF,fenced,code,ap⟩=fI:=by rw[RR,hb];rfl
     refine⟨ns,i+1,ay,(show ps.length-(i+1)<ps.length-i by omega),View.o 12 [0,1,2,3,4,5,6,7,11] [] ?_ ?_⟩
     .rw[hM,hb,Bool.true_or];repeat(first|exact .nil|refine .aL ?_|refine .put (.aO (bC om).symm) ?_|refine .eq rfl ?_)
     .refine .pt rfl rfl (.eq rfl (by simp[kB])) (.pt rfl rfl (.eq rfl (by simp[gF])) (.aE (.aE (.aE (.pt rfl rfl (.eq rfl (by simp[uP])) (.pr rfl rfl rfl (.pr rfl rfl rfl (.pt rfl rfl ?_ (.nil _)))))))))
      rw[hT,e1,abT,bU];refine .ve (dv _ _) rfl λj c c' h1 h2=>?_
      match j,h1,h2 with
      |0,h1,h2=>cases h1;cases h2;exact .aO (.ai _)
      |1,h1,h2=>cases h1;cases h2;exact .aO (.ai _)
      |2,h1,h2=>cases h1;cases h2;exact .aO (.ai _)
      |3,h1,h2=>cases h1;cases h2;exact .dO (.bv 3)
      |n+4,h1,h2=>simp at h1
    .have hb:I9 l' i ⟨aF,fenced,code,ap⟩=false:=by simp only[I9];rw[decide_eq_true h0,bR];exact hh
     refine⟨ns,i+1,ay,(show ps.length-(i+1)<ps.length-i by omega),eX hb _ ?_⟩
     rw[hM,hb,adK];repeat(first|exact .nil|refine .aL ?_|refine .put (.aO (bC om).symm) ?_|refine .eq rfl ?_)
   .have hb:I9 l' i ⟨aF,fenced,code,ap⟩=false:=by simp only[I9];rw[show aF=false from bR];simp
    refine⟨ns,i+1,ay,(show ps.length-(i+1)<ps.length-i by omega),eX hb _ ?_⟩
    rw[hM,hb,adK];repeat(first|exact .nil|refine .aL ?_|refine .put (.aO (bC om).symm) ?_|refine .eq rfl ?_)
  .have h0:¬0<i:=by have h0:¬(i:Int)>0:=h0;omega
   have hb:I9 l' i ⟨aF,fenced,code,ap⟩=false:=by simp only[I9];rw[decide_eq_false h0];rfl
   refine⟨ns,i+1,ay,(show ps.length-(i+1)<ps.length-i by omega),eX hb _ ?_⟩
   rw[hM,hb,adK];repeat(first|exact .nil|refine .aL ?_|refine .put (.aO (bC om).symm) ?_|refine .eq rfl ?_)
 .have iD:i=ps.length:=by have h:¬(i:Int)<((ps.map aM.enc).length:Int):=h;rw[P2]at h;omega
  subst iD;have hT:(AI l' ps).take ps.length=AI l' ps:=adm (by simp[AI])
  refine hK _ _ (View.o1 9 [0,1,6,7,8] [] ?_)
  .exact .pt rfl rfl (.eq rfl (by simp[uP])) (.pt rfl rfl (.eq rfl (by simp[gF])) (.pr rfl rfl rfl (.pr rfl rfl rfl (.pt rfl rfl (.bg (by rw[hT])) (.nil _)))))
def ac8(l:List Obj)(ops:List aV)(ps:List aM)(Q:List Int)(l':List Obj)(lL:List aV):Mem:=
 [kB l ops ps,gF,.aE,.mp (Q.map nf),B3,uP (.row 6 9 0 none) (.row 7 2 0 none) .bv,.row 9 (aa (l'.map Obj.enc)),.row 2 (aa (lL.map aV.enc))]
def Y6(l':List Obj)(lL:List aV)(oZ:List aM)(bX:Bool)(K:Ex->St->Prop):Prop:=
 ∀e m,View 0 ⟨e,m⟩ ⟨jD 284 [(1,p0 0),(2,p0 1),(3,ar bX)],[uP (.row 2 9 0 none) (.row 3 2 0 none) (.row 4 4 0 none),gF,.row 9 (aa (l'.map Obj.enc)),.row 2 (aa (lL.map aV.enc)),.row 4 (aa (oZ.map aM.enc))]⟩->K .normal ⟨e,m⟩
theorem ahy(l:List Obj)(ops:List aV)(ps:List aM)(ho:ops.length<=4194304)(fb:ps.length<=4194304)(Q:List Int)(l':List Obj)(D7:l'.length<=4194304)(K:Ex->St->Prop)(hK:Y6 l' (rd Q ops) (AI l' ps) (DP l' ps ps.length) K):
  aw prog 0 ahu (oX (aw prog 0 Y4) K) ⟨jD 284 [(1,p0 0),(2,p0 1),(3,ar false),(5,p0 4),(14,p0 5)],ac8 l ops ps Q l' []⟩:=by
 refine ax (λi=>i<=ops.length) [1,2,3,5,14,122,123] (λi=>[(124,am .i64 (i:Nat))]) (λi=>ac8 l ops ps Q l' ((rd Q ops).take i)) (λi=>ops.length-i) 0 (aad _) ?_ (λi hi=>?_)
 .refine View.o1 8 [0,1,2,3,4,5,6,7] [] ?_
  .exact .pt rfl rfl (.eq rfl (by simp[kB])) (.pt rfl rfl (.eq rfl (by simp[gF])) (.aE (.pt rfl rfl (.eq (fC _) aG) (.pt rfl rfl (.eq rfl (by simp[B3])) (.pt rfl rfl (.eq rfl (by simp[uP])) (.pr rfl rfl rfl (.pn rfl rfl rfl)))))))
 have hi:i<=ops.length:=hi;refine an (λh=>?_) (λh=>?_)
 .have ay:i<ops.length:=by have h:(i:Int)<((ops.map aV.enc).length:Int):=h;rw[P2]at h;omega
  have hp:=xm ay;have hg:=nC ay;generalize ops[i]=o at hp hg;have hT:(rd Q ops).take (i+1)=(rd Q ops).take i++ [I8 Q i o]:=re hp;obtain⟨obj,dq⟩:=o;refine af hg ?_;have ns:((aa (((rd Q ops).take i).map aV.enc)).length+1)*16<=140737488355328:=by rw[aJ,P2,abg];omega
  refine af (KY (i:Int) Q) ?_;cases hq:pT Q (i:Int)with
  |false=>
   have e1:I8 Q i ⟨obj,dq⟩=⟨-1,0⟩:=by rw[I8,hq];rfl
   refine⟨ns,i+1,ay,(show ops.length-(i+1)<ops.length-i by omega),View.o2 11 [0,1,2,3,4,5,6,10] [] ?_⟩
   .refine .pt rfl rfl (.eq rfl (by simp[kB])) (.pt rfl rfl (.eq rfl (by simp[gF])) (.aE (.pt rfl rfl (.eq (fC _) aG) (.pt rfl rfl (.eq rfl (by simp[B3])) (.pt rfl rfl (.eq rfl (by simp[uP])) (.pr rfl rfl rfl (.pt rfl rfl (.bg ?_) (.nil _))))))))
    rw[hT,e1,abT,bU];rfl
  |true=>
   have e1:I8 Q i ⟨obj,dq⟩=⟨obj,dq⟩:=by rw[I8,hq];rfl
   refine⟨ns,i+1,ay,(show ops.length-(i+1)<ops.length-i by omega),View.o2 11 [0,1,2,3,4,5,6,10] [] ?_⟩
   .refine .pt rfl rfl (.eq rfl (by simp[kB])) (.pt rfl rfl (.eq rfl (by simp[gF])) (.aE (.pt rfl rfl (.eq (fC _) aG) (.pt rfl rfl (.eq rfl (by simp[B3])) (.pt rfl rfl (.eq rfl (by simp[uP])) (.pr rfl rfl rfl (.pt rfl rfl (.bg ?_) (.nil _))))))))
    rw[hT,e1,abT,bU];rfl
 .have iD:i=ops.length:=by have h:¬(i:Int)<((ops.map aV.enc).length:Int):=h;rw[P2]at h;omega
  subst iD;have hT:(rd Q ops).take ops.length=rd Q ops:=adm (by simp[rd])
  refine⟨_,View.trans (View.S7 5 2 4 8 rfl rfl rfl rfl) (View.o1 9 [0,1,2,3,4,5,6,7,8] [] ?_),ahx l ops ps fb l' D7 (rd Q ops) K hK⟩
  .exact .pt rfl rfl (.eq rfl (by simp[kB])) (.pt rfl rfl (.eq rfl (by simp[gF])) (.aE (.aE (.aE (.pt rfl rfl (.eq rfl (by simp[uP])) (.pr rfl rfl rfl (.pt rfl rfl (.bg (by rw[hT])) (.pn rfl rfl rfl))))))))
def M90(l:List Obj)(ops:List aV)(ps:List aM)(L:List Nat)(Q:List Int)(l':List Obj):Mem:=
 [kB l ops ps,gF,.mp (L.map gd),.mp (Q.map nf),B3,uP (.row 6 9 0 none) .bv .bv,.row 9 (aa (l'.map Obj.enc))]
theorem RS{Y:Nat->Nat}{m:Mem}{Z:Nat->Prop}{id:Nat}(R:List Obj){es:List (List CC)}(h:es=aa (R.map Obj.enc)):o6 Y m Z id (.row 9 (es++ [JU])) (.row 9 (aa ((R++ [dU]).map Obj.enc))):=by
 subst h;rw[abT,bU];refine .ve (dv _ _) rfl λj c c' h1 h2=>?_
 match j,h1,h2 with
 |0,h1,h2=>cases h1;cases h2;exact .aO (.ai _)
 |1,h1,h2=>cases h1;cases h2;exact .dO (.bv 1)
 |2,h1,h2=>cases h1;cases h2;exact .dO (.bv 2)
 |3,h1,h2=>cases h1;cases h2;exact .aO (.ai _)
 |4,h1,h2=>cases h1;cases h2;exact .aO (.ai _)
 |5,h1,h2=>cases h1;cases h2;exact .dO (.bv 4)
 |6,h1,h2=>cases h1;cases h2;exact .aO (.ai _)
 |7,h1,h2=>cases h1;cases h2;exact .aO (.ai _)
 |8,h1,h2=>cases h1;cases h2;exact .aO (.ai _)
 |n+9,h1,h2=>simp[JU]at h1
theorem t90(l:List Obj)(ops:List aV)(ps:List aM)(hl:l.length<=4194304)(ho:ops.length<=4194304)(fb:ps.length<=4194304)(L:List Nat)(Q:List Int)(K:Ex->St->Prop)(hK:Y6 (rN L l) (rd Q ops) (AI (rN L l) ps) (DP (rN L l) ps ps.length) K):
  aw prog 0 X90 (oX (aw prog 0 Y3) K) ⟨jD 284 [(1,p0 0),(2,p0 1),(3,ar false),(4,.rv (.one (.map 2))),(5,p0 4),(14,p0 5)],M90 l ops ps L Q []⟩:=by
 have mv:∀(i:Nat)(x:List CC)(o':Obj),x=o'.enc.map .ai->(rN L l).take (i+1)=(rN L l).take i++ [o']->aa (((rN L l).take i).map Obj.enc)++ [x]=aa (((rN L l).take (i+1)).map Obj.enc):=by intro i x o' h1 h2;rw[h2,abT,bU,h1];rfl
 refine ax (λi=>i<=l.length) [1,2,3,4,5,14,91,92] (λi=>[(93,am .i64 (i:Nat))]) (λi=>M90 l ops ps L Q ((rN L l).take i)) (λi=>l.length-i) 0 (aad _) ?_ (λi hi=>?_)
 .refine View.o1 7 [0,1,2,3,4,5,6] [] ?_
  .exact .pt rfl rfl (.eq rfl (by simp[kB])) (.pt rfl rfl (.eq rfl (by simp[gF])) (.pt rfl rfl (.eq (dn _) aG) (.pt rfl rfl (.eq (fC _) aG) (.pt rfl rfl (.eq rfl (by simp[B3])) (.pt rfl rfl (.eq rfl (by simp[uP])) (.pn rfl rfl rfl))))))
 have hi:i<=l.length:=hi;refine an (λh=>?_) (λh=>?_)
 .have ay:i<l.length:=by have h:(i:Int)<((l.map Obj.enc).length:Int):=h;rw[P2]at h;omega
  have hp:=xm ay;have hg:=nv ay;generalize l[i]=o at hp hg;have hT:(rN L l).take (i+1)=(rN L l).take i++ [B4 L i o]:=re hp;obtain⟨ah,data,ag,target,aI,aj,aQ,ak,up⟩:=o;refine af hg ?_;have ns:((aa (((rN L l).take i).map Obj.enc)).length+1)*128<=140737488355328:=by rw[aJ,P2,abg];omega
  refine af (rB (i:Int) L) ?_;cases hn:nD L (i:Int)with
  |false=>
   have e1:B4 L i ⟨ah,data,ag,target,aI,aj,aQ,ak,up⟩=dU:=by rw[B4,if_pos hn]
   rw[e1]at hT;refine⟨ns,i+1,ay,(show l.length-(i+1)<l.length-i by omega),View.o2 10 [0,1,2,3,4,5,9] [] ?_⟩
   .refine .pt rfl rfl (.eq rfl (by simp[kB])) (.pt rfl rfl (.eq rfl (by simp[gF])) (.pt rfl rfl (.eq (dn _) aG) (.pt rfl rfl (.eq (fC _) aG) (.pt rfl rfl (.eq rfl (by simp[B3])) (.pt rfl rfl (.eq rfl (by simp[uP])) (.pt rfl rfl ?_ (.nil _)))))))
    rw[hT];exact RS _ rfl
  |true=>
   have gU:∀(p':Int),B4 L i ⟨ah,data,ag,target,aI,aj,aQ,ak,up⟩=⟨ah,data,ag,target,p',aj,aQ,ak,up⟩->aa (((rN L l).take i).map Obj.enc)++ [[CC.ai (.val (.int .i64 ah)),.ai (.sl 1 data),.ai (.sl 2 ag),.ai (.val (.string target)),.ai (.val (.int .i64 p')),.ai (.sl 4 (aj.map cJ.enc)),.ai (.val (.int .i64 aQ)),.ai (.val (.int .i64 ak)),.ai (.val (.int .i64 up))]]=aa (((rN L l).take (i+1)).map Obj.enc):=by intro p' e;rw[e]at hT;exact mv i _ _ rfl hT
   refine bc (λhk=>?_) (λhk=>?_)
   .refine af (rB aI L) ?_;cases wu:nD L aI with
    |false=>
     have e1:B4 L i ⟨ah,data,ag,target,aI,aj,aQ,ak,up⟩=⟨ah,data,ag,target,-1,aj,aQ,ak,up⟩:=by
      rw[B4,if_neg (by rw[hn];simp),if_pos ⟨hk,wu⟩]
     refine⟨ns,i+1,ay,(show l.length-(i+1)<l.length-i by omega),View.o2 10 [0,1,2,3,4,5,9] [] ?_⟩
     .exact .pt rfl rfl (.eq rfl (by simp[kB])) (.pt rfl rfl (.eq rfl (by simp[gF])) (.pt rfl rfl (.eq (dn _) aG) (.pt rfl rfl (.eq (fC _) aG) (.pt rfl rfl (.eq rfl (by simp[B3])) (.pt rfl rfl (.eq rfl (by simp[uP])) (.pt rfl rfl (.bg (gU (-1) e1)) (.nil _)))))))
    |true=>
     have e1:B4 L i ⟨ah,data,ag,target,aI,aj,aQ,ak,up⟩=⟨ah,data,ag,target,aI,aj,aQ,ak,up⟩:=by
      rw[B4,if_neg (by rw[hn];simp),if_neg (λh=>by rw[show nD L aI=false from h.2]at wu;cases wu)]
     refine⟨ns,i+1,ay,(show l.length-(i+1)<l.length-i by omega),View.o2 10 [0,1,2,3,4,5,9] [] ?_⟩
     .exact .pt rfl rfl (.eq rfl (by simp[kB])) (.pt rfl rfl (.eq rfl (by simp[gF])) (.pt rfl rfl (.eq (dn _) aG) (.pt rfl rfl (.eq (fC _) aG) (.pt rfl rfl (.eq rfl (by simp[B3])) (.pt rfl rfl (.eq rfl (by simp[uP])) (.pt rfl rfl (.bg (gU aI e1)) (.nil _)))))))
   .have e1:B4 L i ⟨ah,data,ag,target,aI,aj,aQ,ak,up⟩=⟨ah,data,ag,target,aI,aj,aQ,ak,up⟩:=by
     rw[B4,if_neg (by rw[hn];simp),if_neg (λh=>hk h.1)]
    refine⟨ns,i+1,ay,(show l.length-(i+1)<l.length-i by omega),View.o2 10 [0,1,2,3,4,5,9] [] ?_⟩
    .exact .pt rfl rfl (.eq rfl (by simp[kB])) (.pt rfl rfl (.eq rfl (by simp[gF])) (.pt rfl rfl (.eq (dn _) aG) (.pt rfl rfl (.eq (fC _) aG) (.pt rfl rfl (.eq rfl (by simp[B3])) (.pt rfl rfl (.eq rfl (by simp[uP])) (.pt rfl rfl (.bg (gU aI e1)) (.nil _)))))))
 .have iD:i=l.length:=by have h:¬(i:Int)<((l.map Obj.enc).length:Int):=h;rw[P2]at h;omega
  subst iD;have hT:(rN L l).take l.length=rN L l:=adm (by simp[rN])
  refine⟨_,View.trans (View.S7 5 1 2 7 rfl rfl rfl rfl) (View.o1 8 [0,1,2,3,4,5,6,7] [] ?_),ahy l ops ps ho fb Q (rN L l) (by simpa[rN]using hl) K hK⟩
  .exact .pt rfl rfl (.eq rfl (by simp[kB])) (.pt rfl rfl (.eq rfl (by simp[gF])) (.aE (.pt rfl rfl (.eq (fC _) aG) (.pt rfl rfl (.eq rfl (by simp[B3])) (.pt rfl rfl (.eq rfl (by simp[uP])) (.pt rfl rfl (.bg (by rw[hT])) (.pn rfl rfl rfl)))))))
def T1(ps:List aM)(p j:Nat)(z:Int):Prop:=∃(i:Nat)(pr:aM)(k:Nat)(s:dX),ps[i]? =some pr/\pr.aF=true/\pr.ap[k]? =some s/\s.has=true/\(i<p\/i=p/\k<j)/\z=s.ct
def T2(l:List Obj)(ps:List aM)(L:List Nat)(i k:Nat)(z:Int):Prop:=
 T1 ps ps.length 0 z\/∃(i':Nat)(o:Obj)(k':Nat)(q:cJ),i'∈L/\l[i']? =some o/\o.aj[k']? =some q/\q.has=true/\(i'<i\/i'=i/\k'<k)/\z=q.ct
def QI(S:Int->Prop)(Q:List Int):Prop:=∀z,pT Q z=true↔S z
theorem QI.add{S S':Int->Prop}{Q:List Int}{x:Int}(h:QI S Q)(hS:∀z,S' z↔(S z\/z=x)):QI S' (p9 x Q):=λz=>by rw[U6,hS z,h z]
theorem QI.cT{S S':Int->Prop}{Q:List Int}(h:QI S Q)(hS:∀z,S' z↔S z):QI S' Q:=λz=>by rw[hS z,h z]
theorem U7{ps:List aM}{z:Int}:¬T1 ps 0 0 z:=by rintro⟨i,pr,k,s,_,_,_,_,h,_⟩;omega
theorem U8{ps:List aM}{p j:Nat}{pr:aM}{s:dX}(hp:ps[p]? =some pr)(hs:pr.ap[j]? =some s)(y:Int):T1 ps p (j+1) y↔(T1 ps p j y\/(pr.aF=true/\s.has=true/\y=s.ct)):=by
 constructor
 .rintro⟨i,RK,k,s',h1,h2,h3,h4,h5,h6⟩;by_cases hk:i=p/\k=j
  .obtain⟨rfl,rfl⟩:=hk;rw[hp]at h1;cases h1;rw[hs]at h3;cases h3;exact .inr ⟨h2,h4,h6⟩
  .exact .inl ⟨i,RK,k,s',h1,h2,h3,h4,om,h6⟩
 .rintro(⟨i,RK,k,s',h1,h2,h3,h4,h5,h6⟩|⟨h1,h2,h3⟩)
  .exact⟨i,RK,k,s',h1,h2,h3,h4,om,h6⟩
  .exact⟨p,pr,j,s,hp,h1,hs,h2,.inr ⟨rfl,om⟩,h3⟩
theorem U9{ps:List aM}{p:Nat}{pr:aM}(hp:ps[p]? =some pr)(y:Int):T1 ps (p+1) 0 y↔T1 ps p pr.ap.length y:=by
 constructor
 .rintro⟨i,RK,k,s',h1,h2,h3,h4,h5,h6⟩;refine⟨i,RK,k,s',h1,h2,h3,h4,?_,h6⟩;by_cases hi:i=p
  .subst hi;rw[hp]at h1;cases h1;exact .inr ⟨rfl,(Mp.1 h3).1⟩
  .exact .inl om
 .rintro⟨i,RK,k,s',h1,h2,h3,h4,h5,h6⟩;exact⟨i,RK,k,s',h1,h2,h3,h4,om,h6⟩
theorem Va{l:List Obj}{ps:List aM}{L:List Nat}(z:Int):T2 l ps L 0 0 z↔T1 ps ps.length 0 z:=by
 constructor
 .rintro(h|⟨i,o,k,q,_,_,_,_,h,_⟩)
  .exact h
  .omega
 .exact .inl
theorem Vb{l:List Obj}{ps:List aM}{L:List Nat}{i k:Nat}{o:Obj}{q:cJ}(ho:l[i]? =some o)(hq:o.aj[k]? =some q)(z:Int):T2 l ps L i (k+1) z↔(T2 l ps L i k z\/(i∈L/\q.has=true/\z=q.ct)):=by
 constructor
 .rintro(h|⟨i',o',k',q',h1,h2,h3,h4,h5,h6⟩)
  .exact .inl (.inl h)
  .by_cases hk:i'=i/\k'=k
   .obtain⟨rfl,rfl⟩:=hk;rw[ho]at h2;cases h2;rw[hq]at h3;cases h3;exact .inr ⟨h1,h4,h6⟩
   .exact .inl (.inr ⟨i',o',k',q',h1,h2,h3,h4,om,h6⟩)
 .rintro((h|⟨i',o',k',q',h1,h2,h3,h4,h5,h6⟩)|⟨h1,h2,h3⟩)
  .exact .inl h
  .exact .inr ⟨i',o',k',q',h1,h2,h3,h4,om,h6⟩
  .exact .inr ⟨i,o,k,q,h1,ho,hq,h2,.inr ⟨rfl,om⟩,h3⟩
theorem Vc{l:List Obj}{ps:List aM}{L:List Nat}{i:Nat}{o:Obj}(ho:l[i]? =some o)(z:Int):T2 l ps L (i+1) 0 z↔T2 l ps L i o.aj.length z:=by
 constructor
 .rintro(h|⟨i',o',k',q',h1,h2,h3,h4,h5,h6⟩)
  .exact .inl h
  .refine .inr ⟨i',o',k',q',h1,h2,h3,h4,?_,h6⟩;by_cases hi:i'=i
   .subst hi;rw[ho]at h2;cases h2;exact .inr ⟨rfl,(Mp.1 h3).1⟩
   .exact .inl om
 .rintro(h|⟨i',o',k',q',h1,h2,h3,h4,h5,h6⟩)
  .exact .inl h
  .exact .inr ⟨i',o',k',q',h1,h2,h3,h4,om,h6⟩
def xQ(l:List Obj)(ps:List aM)(L:List Nat)(Q:List Int):Prop:=QI (T2 l ps L l.length 0) Q
def Wy(l:List Obj)(ops:List aV)(ps:List aM)(L:List Nat)(Q:List Int):Mem:=[kB l ops ps,gF,.mp (L.map gd),.mp (Q.map nf),B3]
theorem AJ(l:List Obj)(ops:List aV)(ps:List aM)(L:List Nat)(Q:List Int)(n:Nat)(R:Mem):b8 (sg [0,1,2,3,4] n) (kB l ops ps::gF:: .mp (L.map gd):: .mp (Q.map nf)::B3::R) (λk=>bh [] k=true) 0 (Wy l ops ps L Q):=
 .pt rfl rfl (.eq rfl (by simp[kB])) (.pt rfl rfl (.eq rfl (by simp[gF])) (.pt rfl rfl (.eq (dn _) aG) (.pt rfl rfl (.eq (fC _) aG) (.pt rfl rfl (.eq rfl (by simp[B3])) (.nil _)))))
theorem K2(l:List Obj)(ops:List aV)(ps:List aM)(L:List Nat)(Q:List Int)(ds:List Dt)(n:Nat)(R:Mem):b8 (sg [0,1,2,3,4,5] n) (kB l ops ps::gF:: .mp (L.map gd):: .mp (Q.map nf)::B3:: .var (ds.map .ai)::R) (λk=>bh [] k=true) 0 (Wy l ops ps L Q++ [.var (ds.map .ai)]):=
 .pt rfl rfl (.eq rfl (by simp[kB])) (.pt rfl rfl (.eq rfl (by simp[gF])) (.pt rfl rfl (.eq (dn _) aG) (.pt rfl rfl (.eq (fC _) aG) (.pt rfl rfl (.eq rfl (by simp[B3])) (.pt rfl rfl (.lR rfl) (.nil _))))))
structure StQ where
 i:Nat
 Q:List Int
def Ja(l:List Obj)(ops:List aV)(ps:List aM)(L:List Nat)(K:Ex->St->Prop):Prop:=
 ∀Q,xQ l ps L Q->Y6 (rN L l) (rd Q ops) (AI (rN L l) ps) (DP (rN L l) ps ps.length) K
theorem t59(l:List Obj)(ops:List aV)(ps:List aM)(g:∀o,o∈l->o.sm)(hl:l.length<=4194304)(ho:ops.length<=4194304)(fb:ps.length<=4194304)(L:List Nat)(K:Ex->St->Prop)(hK:Ja l ops ps L K)(Q:List Int)(hQ:QI (T1 ps ps.length 0) Q):
  aw prog 0 X59 (oX (aw prog 0 T89) K) ⟨jD 284 [(1,p0 0),(2,p0 1),(3,ar false),(4,.rv (.one (.map 2))),(5,p0 4),(6,.rv (.one (.fn 24 [4])))],Wy l ops ps L Q⟩:=by
 refine ax (λa:StQ=>a.i<=l.length/\QI (T2 l ps L a.i 0) a.Q) [1,2,3,4,5,6,60,61] (λa=>[(62,am .i64 (a.i:Nat))]) (λa=>Wy l ops ps L a.Q) (λa=>l.length-a.i) ⟨0,Q⟩ ⟨aad _,hQ.cT Va⟩ ?_ (λa hJ=>?_)
 .refine View.o1 5 [0,1,2,3,4] [] (AJ l ops ps L Q 5 [])
 clear hQ;obtain⟨i,Q⟩:=a;obtain⟨hi,hQ⟩:=hJ;have hi:i<=l.length:=hi;have hQ:QI (T2 l ps L i 0) Q:=hQ;refine an (λh=>?_) (λh=>?_)
 .have ay:i<l.length:=by have h:(i:Int)<((l.map Obj.enc).length:Int):=h;rw[P2]at h;omega
  have PT:=xm ay;have s8:=g _ (aaP ay);have hg:=nv ay;generalize l[i]=o at PT s8 hg;obtain⟨ah,data,ag,target,aI,aj,aQ,ak,up⟩:=o;have JN:aj.length<=8:=s8.q;refine af hg ?_;refine ax (λa:StQ=>a.i<=aj.length/\QI (T2 l ps L i a.i) a.Q) [1,2,3,4,5,6,11,60,61,62,70,71] (λa=>[(72,am .i64 (a.i:Nat))]) (λa=>Wy l ops ps L a.Q) (λa=>aj.length-a.i) ⟨0,Q⟩ ⟨aad _,hQ⟩ ?_ (λa hJ=>?_)
  .refine View.o1 5 [0,1,2,3,4] [] (AJ l ops ps L Q 5 [])
  clear hQ;obtain⟨k,Q⟩:=a;obtain⟨hk,hQ⟩:=hJ;have hk:k<=aj.length:=hk;have hQ:QI (T2 l ps L i k) Q:=hQ;refine an (λef=>?_) (λef=>?_)
  .have fj:k<aj.length:=by have h:(k:Int)<((aj.map cJ.enc).length:Int):=ef;rw[P2]at h;omega
   have U5:=xm fj;have qn:cH (aj.map cJ.enc) (k:Nat)=some (aj[k].enc):=by rw[aY,Rn,U5];rfl
   generalize aj[k]=ms at U5 qn;have wZ:=Vb (ps:=ps) (L:=L) PT U5;obtain⟨mdata,has,ct,rts⟩:=ms;refine af (x:=[.sl 1 mdata,.val (.bool has),.val (.int .i64 ct),.val (.int .i64 rts)]) qn ?_;refine af (rB (i:Int) L) ?_;cases hn:nD L (i:Int)with
   |false=>
    have Bd:i∉L:=λh=>by rw[fT.2 h]at hn;cases hn
    refine⟨⟨k+1,Q⟩,⟨fj,hQ.cT λz=>by rw[wZ z];exact⟨λh=>h.elim id λh=>absurd h.1 Bd,.inl⟩⟩,(show aj.length-(k+1)<aj.length-k by omega),View.o2 6 [0,1,2,3,4] [] (AJ l ops ps L Q 6 _)⟩
   |true=>
    have Cs:i∈L:=fT.1 hn;refine aC (λhh=>?_) (λhh=>?_)
    .refine KZ (kB l ops ps) gF (.mp (L.map gd)) ct rts Q [.var [.ai (.sl 1 mdata),.ai (.val (.bool has)),.ai (.val (.int .i64 ct)),.ai (.val (.int .i64 rts))]] ?_;refine⟨⟨k+1,p9 ct Q⟩,⟨fj,hQ.add λz=>by rw[wZ z];exact⟨λh=>h.elim .inl λh=>.inr h.2.2,λh=>h.elim .inl λh=>.inr ⟨Cs,hh,h⟩⟩⟩,(show aj.length-(k+1)<aj.length-k by omega),View.o2 6 [0,1,2,3,4] [] (AJ l ops ps L (p9 ct Q) 6 _)⟩
    .refine⟨⟨k+1,Q⟩,⟨fj,hQ.cT λz=>by rw[wZ z];exact⟨λh=>h.elim id λh=>absurd h.2.1 (by rw[show has=false from hh];simp),.inl⟩⟩,(show aj.length-(k+1)<aj.length-k by omega),View.o2 6 [0,1,2,3,4] [] (AJ l ops ps L Q 6 _)⟩
  .have oc:k=aj.length:=by have h:¬(k:Int)<((aj.map cJ.enc).length:Int):=ef;rw[P2]at h;omega
   subst oc;refine⟨⟨i+1,Q⟩,⟨ay,hQ.cT λz=>Vc PT z⟩,(show l.length-(i+1)<l.length-i by omega),View.o2 5 [0,1,2,3,4] [] (AJ l ops ps L Q 5 [])⟩
 .have iD:i=l.length:=by have h:¬(i:Int)<((l.map Obj.enc).length:Int):=h;rw[P2]at h;omega
  subst iD;refine⟨_,View.trans (View.S7 5 0 9 6 rfl rfl rfl rfl) (View.o1 7 [0,1,2,3,4,5,6] [] ?_),t90 l ops ps hl ho fb L Q K (hK Q hQ)⟩
  .exact .pt rfl rfl (.eq rfl (by simp[kB])) (.pt rfl rfl (.eq rfl (by simp[gF])) (.pt rfl rfl (.eq (dn _) aG) (.pt rfl rfl (.eq (fC _) aG) (.pt rfl rfl (.eq rfl (by simp[B3])) (.pt rfl rfl (.eq rfl (by simp[uP])) (.pn rfl rfl rfl))))))
theorem t33(l:List Obj)(ops:List aV)(ps:List aM)(g:∀o,o∈l->o.sm)(hl:l.length<=4194304)(ho:ops.length<=4194304)(fb:ps.length<=4194304)(jB:∀p,p∈ps->p.ap.length<=4194304)(L:List Nat)(K:Ex->St->Prop)(hK:Ja l ops ps L K):
  aw prog 0 X33 (oX (aw prog 0 T59) K) ⟨jD 284 [(1,p0 0),(2,p0 1),(3,ar false),(4,.rv (.one (.map 2))),(5,p0 4),(6,.rv (.one (.fn 24 [4])))],Wy l ops ps L []⟩:=by
 refine ax (λa:StQ=>a.i<=ps.length/\QI (T1 ps a.i 0) a.Q) [1,2,3,4,5,6,34,35] (λa=>[(36,am .i64 (a.i:Nat))]) (λa=>Wy l ops ps L a.Q) (λa=>ps.length-a.i) ⟨0,[]⟩ ⟨aad _,λz=>⟨(λh=>by cases h),λh=>absurd h U7⟩⟩ ?_ (λa hJ=>?_)
 .refine View.o1 5 [0,1,2,3,4] [] (AJ l ops ps L [] 5 [])
 obtain⟨p,Q⟩:=a;obtain⟨hp,hQ⟩:=hJ;have hp:p<=ps.length:=hp;have hQ:QI (T1 ps p 0) Q:=hQ;refine an (λh=>?_) (λh=>?_)
 .have gA:p<ps.length:=by have h:(p:Int)<((ps.map aM.enc).length:Int):=h;rw[P2]at h;omega
  have oD:=xm gA;have nT:=jB _ (aaP gA);have hg:=(by rw[aY,Rn,oD];rfl:cH (ps.map aM.enc) (p:Nat)=some (ps[p].enc))
  generalize ps[p]=pr at oD hg nT;obtain⟨aF,fenced,code,ap⟩:=pr;have nT:ap.length<=4194304:=nT;refine af (x:=[.val (.bool aF),.val (.bool fenced),.val (.int .i64 code),ip ap]) hg ?_;refine ax (λa:StQ=>a.i<=ap.length/\QI (T1 ps p a.i) a.Q) [1,2,3,4,5,6,8,34,35,36,41,42] (λa=>[(43,am .i64 (a.i:Nat))]) (λa=>Wy l ops ps L a.Q++ [.var ([Dt.val (.bool aF),.val (.bool fenced),.val (.int .i64 code),ip ap].map .ai)]) (λa=>ap.length-a.i) ⟨0,Q⟩
   ⟨aad _,hQ⟩ ?_ (λa hJ=>?_)
  .refine View.o1 6 [0,1,2,3,4,5] [] (K2 l ops ps L Q [.val (.bool aF),.val (.bool fenced),.val (.int .i64 code),ip ap] 6 [])
  clear hQ;obtain⟨j,Q⟩:=a;obtain⟨hj,hQ⟩:=hJ;have hj:j<=ap.length:=hj;have hQ:QI (T1 ps p j) Q:=hQ;refine an (λgH=>?_) (λgH=>?_)
  .have bV:j<ap.length:=by have h:(j:Int)<((ap.map dX.enc).length:Int):=gH;rw[P2]at h;omega
   have hs:=xm bV;have qn:cH (ap.map dX.enc) (j:Nat)=some (ap[j].enc):=by rw[aY,Rn,hs];rfl
   generalize ap[j]=s at hs qn;have wZ:=U8 oD hs;obtain⟨has,ct,rts⟩:=s;refine af (x:=[.val (.bool has),.val (.int .i64 ct),.val (.int .i64 rts)]) qn ?_;have skip:¬(aF=true/\has=true)->QI (T1 ps p (j+1)) Q:=λhn=>hQ.cT λz=>by rw[wZ z];exact⟨λh=>h.elim id λh=>absurd ⟨h.1,h.2.1⟩ hn,.inl⟩
   refine aC (λbR=>?_) (λbR=>?_)
   .refine aC (λhh=>?_) (λhh=>?_)
    .refine KZ (kB l ops ps) gF (.mp (L.map gd)) ct rts Q [.var [.ai (.val (.bool aF)),.ai (.val (.bool fenced)),.ai (.val (.int .i64 code)),.ai (ip ap)],.var [.ai (.val (.bool has)),.ai (.val (.int .i64 ct)),.ai (.val (.int .i64 rts))]] ?_;refine⟨⟨j+1,p9 ct Q⟩,⟨bV,hQ.add λz=>by rw[wZ z];exact⟨λh=>h.elim .inl λh=>.inr h.2.2,λh=>h.elim .inl λh=>.inr ⟨bR,hh,h⟩⟩⟩,(show ap.length-(j+1)<ap.length-j by omega),View.o2 7 [0,1,2,3,4,5] [] (K2 l ops ps L (p9 ct Q) [.val (.bool aF),.val (.bool fenced),.val (.int .i64 code),ip ap] 7 _)⟩
    .refine⟨⟨j+1,Q⟩,⟨bV,skip λh=>by rw[h.2]at hh;cases hh⟩,(show ap.length-(j+1)<ap.length-j by omega),View.o2 7 [0,1,2,3,4,5] [] (K2 l ops ps L Q [.val (.bool aF),.val (.bool fenced),.val (.int .i64 code),ip ap] 7 _)⟩
   .refine⟨⟨j+1,Q⟩,⟨bV,skip λh=>by rw[h.1]at bR;cases bR⟩,(show ap.length-(j+1)<ap.length-j by omega),View.o2 7 [0,1,2,3,4,5] [] (K2 l ops ps L Q [.val (.bool aF),.val (.bool fenced),.val (.int .i64 code),ip ap] 7 _)⟩
  .have sB:j=ap.length:=by have h:¬(j:Int)<((ap.map dX.enc).length:Int):=gH;rw[P2]at h;omega
   subst sB;refine⟨⟨p+1,Q⟩,⟨gA,hQ.cT λz=>U9 oD z⟩,(show ps.length-(p+1)<ps.length-p by omega),View.o2 6 [0,1,2,3,4] [] (AJ l ops ps L Q 6 _)⟩
 .have wu:p=ps.length:=by have h:¬(p:Int)<((ps.map aM.enc).length:Int):=h;rw[P2]at h;omega
  subst wu;refine⟨_,View.o1 5 [0,1,2,3,4] [] (AJ l ops ps L Q 5 []),t59 l ops ps g hl ho fb L K hK Q hQ⟩
theorem NC:dU.sm:=⟨⟨⟨[],rfl⟩,⟨[],rfl⟩,λq hq=>by simp[dU]at hq⟩,by simp[dU],by simp[dU],by simp[dU],λq hq=>by simp[dU]at hq⟩
def jo(ps:List aM):Nat:=(ps.filter λp=>p.aF).length
theorem B5:∀(a b:List aM),b.length=a.length->(∀(t:Nat)x y,a[t]? =some x->b[t]? =some y->y.aF=true->x.aF=true)->jo b<=jo a/\((∃(t:Nat)(x y:aM),a[t]? =some x/\b[t]? =some y/\x.aF=true/\y.aF=false)->jo b<jo a)
 | [],[],_,_=>⟨aah _,λ⟨t,x,y,h,_⟩=>by simp at h⟩
 | [],_::_,h,_=>by simp at h
 |_::_,[],h,_=>by simp at h
 |x::a,y::b,h,hm=>by
  obtain⟨ih1,ih2⟩:=B5 a b (by simpa using h) (λt u v hu hv=>hm (t+1) u v (by simpa using hu) (by simpa using hv))
  have h0:=hm 0 x y aG aG;refine⟨?_,λ⟨t,u,v,hu,hv,hul,wv⟩=>?_⟩
  .unfold jo at ih1|-;cases hx:x.aF<;>cases hy:y.aF<;>simp[hx,hy]at h0|-<;>omega
  .cases t with
   |zero=>
    simp at hu hv;subst hu hv;unfold jo at ih1|-;simp[hul,wv];omega
   |succ t=>
    have:=ih2 ⟨t,u,v,by simpa using hu,by simpa using hv,hul,wv⟩
    unfold jo at this|-;cases hx:x.aF<;>cases hy:y.aF<;>simp[hx,hy]at h0|-<;>omega
structure Kx where
 l:List Obj
 ops:List aV
 ps:List aM
structure Dz(k:Kx):Prop where
 g:∀o,o∈k.l->o.sm
 hl:k.l.length<=4194304
 ho:k.ops.length<=4194304
 hp:k.ps.length<=4194304
 hs:∀p,p∈k.ps->p.ap.length<=4194304
structure uJ(k k':Kx)(bX:Bool):Prop where
 ex:∃L Q,iM k.l k.ops k.ps L/\xQ k.l k.ps L Q/\k'.l=rN L k.l/\k'.ops=rd Q k.ops
 ps:k'.ps=AI k'.l k.ps
 mo:bX=DP k'.l k.ps k.ps.length
inductive Y7(k:Kx):Kx->Prop
 |refl:Y7 k k
 |step {a b:Kx} (h:Y7 k a) (s:uJ a b true):Y7 k b
theorem Y8{L:List Nat}{i:Nat}{o:Obj}(h:o.sm):(B4 L i o).sm:=by
 unfold B4;split
 .exact NC
 .split
  .exact⟨h.t,h.d,h.e,h.q,h.qd⟩
  .exact h
theorem m4{α β:Type}{f:Nat->α->β}{l:List α}{y:β}(h:y∈l.mapIdx f):∃i x,l[i]? =some x/\y=f i x:=by
 obtain⟨i,hi⟩:=ad0.1 h;rw[acJ]at hi;cases hx:l[i]? with
 |none=>rw[hx]at hi;cases hi
 |some x=>
  rw[hx]at hi;exact⟨i,x,hx,(adZ hi).symm⟩
theorem uJ.sz{a b:Kx}{m:Bool}(s:uJ a b m)(h:Dz a):Dz b:=by
 obtain⟨⟨L,Q,_,_,e1,e2⟩,e3,_⟩:=s;refine⟨λo ho=>?_,?_,?_,?_,λp hp=>?_⟩
 .rw[e1]at ho;obtain⟨i,x,hx,rfl⟩:=m4 ho;exact Y8 (h.g x (Wm hx))
 .rw[e1,rN,ado];exact h.hl
 .rw[e2,rd,ado];exact h.ho
 .rw[e3,AI,ado];exact h.hp
 .rw[e3]at hp;obtain⟨i,x,hx,rfl⟩:=m4 hp;unfold RR;split
  .exact aad _
  .exact h.hs x (Wm hx)
theorem F3{l':List Obj}{ps:List aM}:∀k,DP l' ps k=true->∃t p,ps[t]? =some p/\I9 l' t p=true
 |0,h=>by cases h
 |k+1,h=>by
  simp only[DP,adB]at h;rcases h with h|h
  .cases hp:ps[k]? with
   |none=>rw[hp]at h;cases h
   |some p=>rw[hp]at h;exact⟨k,p,hp,h⟩
  .exact F3 k h
theorem RT{l':List Obj}{t:Nat}{p:aM}(h:I9 l' t p=true):p.aF=true:=by simp only[I9,aaJ]at h;exact h.2.1
theorem uJ.ac9{a b:Kx}(s:uJ a b true):jo b.ps<jo a.ps:=by
 obtain⟨_,e3,e4⟩:=s;obtain⟨t,p,hp,hb⟩:=F3 _ e4.symm;have wF:∀(i:Nat)(x:aM),a.ps[i]? =some x->b.ps[i]? =some (RR b.l i x):=λi x hx=>by rw[e3,AI,acJ,hx];rfl
 refine(B5 a.ps b.ps (by rw[e3,AI,ado]) λi x y hx hy hl=>?_).2 ⟨t,p,fI,hp,?_,RT hb,rfl⟩
 .rw[wF i x hx]at hy;cases hy;unfold RR at hl;split at hl
  .cases hl
  .exact hl
 .rw[wF t p hp,RR,hb];rfl
def ku(k:Kx):Mem:=[uP (.row 2 9 0 none) (.row 3 2 0 none) (.row 4 4 0 none),gF,.row 9 (aa (k.l.map Obj.enc)),.row 2 (aa (k.ops.map aV.enc)),.row 4 (aa (k.ps.map aM.enc))]
theorem ahz(k:Kx)(h:Dz k)(K:Ex->St->Prop)(hK:∀L,iM k.l k.ops k.ps L->Ja k.l k.ops k.ps L K):
  aw prog 0 B21 K ⟨jD 284 [(1,p0 0),(2,p0 1),(3,ar true),(28,ar true)],[kB k.l k.ops k.ps,gF]⟩:=by
 refine NA k.l k.ops k.ps h.g h.hl h.hp h.hs λL hL=>?_
 refine⟨_,View.o1 5 [0,1,2,3,4] [] (AJ k.l k.ops k.ps L [] 5 []),t33 k.l k.ops k.ps h.g h.hl h.ho h.hp h.hs L K (hK L hL)⟩
theorem ahA(k:Kx):b8 (sg [0,1] 5) (ku k) (λi=>bh [2,3,4] i=true) 0 [kB k.l k.ops k.ps,gF]:=by
 refine .pt rfl rfl (dC.var (.cons (.dO ?_) (.cons (.dO ?_) (.cons (.dO ?_) .nil)))) (.pt rfl rfl (.eq rfl (by simp[gF])) (.nil _))
 .exact cV.db (Z:=λi=>bh [2,3,4] i=true) (m:=ku k) (id:=2) (esz:=9) (ds:=k.l.map Obj.enc) rfl rfl 0 none
 .exact cV.db (Z:=λi=>bh [2,3,4] i=true) (m:=ku k) (id:=3) (esz:=2) (ds:=k.ops.map aV.enc) rfl rfl 0 none
 .exact cV.db (Z:=λi=>bh [2,3,4] i=true) (m:=ku k) (id:=4) (esz:=4) (ds:=k.ps.map aM.enc) rfl rfl 0 none
def ahB(k:Kx)(K:Ex->St->Prop):Prop:=
 ∀e m,View 0 ⟨e,m⟩ ⟨jD 284 [(1,p0 0),(2,p0 1)],ku k⟩->K .normal ⟨e,m⟩
def F4(k b:Kx):Prop:=∃a,Y7 k a/\uJ a b false
def G21:LC:=pb (bs c8.code)
structure StO where
 k:Kx
 bX:Bool
def hdM(a:StO):Mem:=match a.bX with
 |true=>[kB a.k.l a.k.ops a.k.ps,gF]
 |false=>ku a.k
def ada:LC:=bs (bs c8.code)
def U22:LC:=bs ada
def adb:LC:=bs U22
def Vd:LC:=bs adb
def Y9:LC:=bs Vd
def Za:LC:=bs Y9
def ahC:LC:=mK (pb ada)
def adc:LC:=mK (pb adb)
def ahD:LC:=mK (pb Vd)
def ahE:LC:=mK (pb Y9)
def ahF:LC:=mK (pb Za)
def dN(n len:Nat):Nat:=if(len:Int)<(n:Int)then len else n
theorem vY(n len:Nat):dN n len<=len:=by unfold dN;split<;>omega
theorem zU(n len:Nat):(if(len:Int)<(n:Int)then(len:Int)else(n:Int))=((dN n len:Nat):Int):=by unfold dN;split<;>rfl
def ND(b:Kx)(n o p:Nat):CV:=cA (b.l.take (dN n b.l.length)) (b.ops.take o) (b.ps.take (dN p b.ps.length))
def NF(Q:CV->Prop):Ex->St->Prop:=oi prog c8.mr λr m=>∃c,Q c/\cM m r c
theorem RU(b:Kx)(n o p:Nat){m:Mem}(h2:m[2]? =some (.row 9 (aa (b.l.map Obj.enc))))(h3:m[3]? =some (.row 2 (aa (b.ops.map aV.enc))))(h4:m[4]? =some (.row 4 (aa (b.ps.map aM.enc)))):
  cM m (.rv (.agg [.row 2 9 0 (some (dN n b.l.length)),.row 3 2 0 (some o),.row 4 4 0 (some (dN p b.ps.length))])) (ND b n o p):=by
 have e2:=eF.db h2 0 (some (dN n b.l.length));have e3:=eF.db h3 0 (some o);have e4:=eF.db h4 0 (some (dN p b.ps.length));rw[show bt (b.l.map Obj.enc) 0 (some (dN n b.l.length))=(b.l.take (dN n b.l.length)).map Obj.enc from List.map_take.symm]at e2;rw[show bt (b.ops.map aV.enc) 0 (some o)=(b.ops.take o).map aV.enc from List.map_take.symm]at e3;rw[show bt (b.ps.map aM.enc) 0 (some (dN p b.ps.length))=(b.ps.take (dN p b.ps.length)).map aM.enc from List.map_take.symm]at e4;refine .rv (.agg rfl λi c c' h h'=>?_)
 match i,h,h' with
 |0,h,h'=>cases h;cases h';exact e2
 |1,h,h'=>cases h;cases h';exact e3
 |2,h,h'=>cases h;cases h';exact e4
 |k+3,h,h'=>simp at h
def eN(n o p:Nat):List CV:=jD 284 [(1,p0 0),(2,p0 1),(22,am .i64 (n:Nat)),(23,am .i64 (o:Nat)),(24,am .i64 (p:Nat))]
theorem ahG(b:Kx)(n o p:Nat)(ho:o<=b.ops.length)(Q:CV->Prop)(hQ:Q (ND b n o p)):
  aw prog 0 ahF (oX (aw prog 0 (bs Za)) (NF Q)) ⟨eN n o p,ku b⟩:=by
 have hlO:(aa (b.l.map Obj.enc)).length=b.l.length:=by rw[aJ,P2]
 have hlP:(aa (b.ps.map aM.enc)).length=b.ps.length:=by rw[aJ,P2]
 have hlQ:(aa (b.ops.map aV.enc)).length=b.ops.length:=by rw[aJ,P2]
 have nO:pV (am .i64 (if(((aa (b.l.map Obj.enc)).length:Nat):Int)<(n:Int)then(((aa (b.l.map Obj.enc)).length:Nat):Int)else(n:Int)))=some (dN n b.l.length):=by rw[hlO,zU];rfl
 have nP:pV (am .i64 (if(((aa (b.ps.map aM.enc)).length:Nat):Int)<(p:Int)then(((aa (b.ps.map aM.enc)).length:Nat):Int)else(p:Int)))=some (dN p b.ps.length):=by rw[hlP,zU];rfl
 have hQb:(Nat.ble 0 o&&Nat.ble o ((aa (b.ops.map aV.enc)).length-0))=true:=by simp[ack,hlQ];omega
 have hOb:(Nat.ble 0 (dN n b.l.length)&&Nat.ble (dN n b.l.length) ((aa (b.l.map Obj.enc)).length-0))=true:=by simp[ack,hlO];exact vY _ _
 have hPb:(Nat.ble 0 (dN p b.ps.length)&&Nat.ble (dN p b.ps.length) ((aa (b.ps.map aM.enc)).length-0))=true:=by simp[ack,hlP];exact vY _ _
 refine bS hQb ?_;refine⟨?_,?_⟩
 .refine⟨⟨rfl,rfl,rfl,bS hQb rfl,rfl,rfl,trivial⟩,?_⟩;refine af nO ?_;refine bS hOb ?_;refine⟨⟨af nO (bS hOb rfl),rfl,bS hQb rfl,rfl,rfl,rfl,rfl,trivial⟩,?_⟩;refine af nP ?_;refine bS hPb ?_;refine⟨trivial,?_⟩;refine⟨_,hQ,?_⟩;exact RU b n o p rfl rfl rfl
 .refine⟨⟨rfl,bS hQb rfl,rfl,rfl,rfl,rfl,trivial⟩,?_⟩;refine af nP ?_;refine bS hPb ?_;refine⟨⟨af nP (bS hPb rfl),rfl,rfl,rfl,bS hQb rfl,rfl,rfl,trivial⟩,?_⟩;refine af nO ?_;refine bS hOb ?_;refine⟨trivial,?_⟩;refine⟨_,hQ,?_⟩;exact RU b n o p rfl rfl rfl
theorem zV{α:Type}{f:α->List Dt}{l:List α}{n:Nat}(h:n<l.length):dW (n:Int) (lenOf (aa (l.map f)).length 0 none)=some n:=bL (by show n<(aa (l.map f)).length;rw[aJ,P2];exact h)
theorem K3{α:Type}{f:α->List Dt}{l:List α}{k:Nat}(h:(k:Int)<(((aa (l.map f)).length:Nat):Int)):k<l.length:=by rw[aJ,P2]at h;omega
theorem K4{α:Type}{f:α->List Dt}{l:List α}{k:Nat}(h:¬(k:Int)<(((aa (l.map f)).length:Nat):Int)):l.length<=k:=by rw[aJ,P2]at h;omega
def gG{α:Type}(f:Nat->Nat->α->Nat)(n0:Nat)(xs:List α):Nat->Nat
 |0=>n0
 |k+1=>match xs[k]? with
  |some x=>f (gG f n0 xs k) k x
  |none=>gG f n0 xs k
theorem rG{α:Type}{f:Nat->Nat->α->Nat}{n0:Nat}{xs:List α}{k:Nat}(h:k<xs.length):gG f n0 xs (k+1)=f (gG f n0 xs k) k xs[k]:=by rw[gG,xm h]
def nF(n i:Nat)(o:Obj):Nat:=if o.ah≠0/\n<=i then i+1 else n
def oF(n i:Nat)(o:aV):Nat:=if 0<=o.obj then i+1 else n
def Sx(l:List Obj)(i:Nat)(p:aM):Bool:=decide (0<i)&&(p.aF||l.any (cD (i:Nat)))
def pF(l:List Obj)(n i:Nat)(p:aM):Nat:=if Sx l i p=true then i+1 else n
theorem adf{n i:Nat}{o:aV}(h:n<=i):oF n i o<=i+1:=by unfold oF;split<;>omega
theorem DA(xs:List aV):∀k,gG oF 0 xs k<=k
 |0=>aah 0
 |k+1=>by
  have ih:=DA xs k;rw[gG];split
  .exact adf ih
  .omega
theorem iX(b:Kx)(n:Nat)(R:Mem):b8 (sg [0,1,2,3,4] n) (uP (.row 2 9 0 none) (.row 3 2 0 none) (.row 4 4 0 none)::gF:: .row 9 (aa (b.l.map Obj.enc)):: .row 2 (aa (b.ops.map aV.enc)):: .row 4 (aa (b.ps.map aM.enc))::R) (λk=>bh [] k=true) 0 (ku b):=
 .pt rfl rfl (.eq rfl (by simp[uP])) (.pt rfl rfl (.eq rfl (by simp[gF])) (.pr rfl rfl rfl (.pr rfl rfl rfl (.pn rfl rfl rfl))))
theorem ahI(b:Kx)(hb:Dz b)(n o:Nat)(ho:o<=b.ops.length)(Q:CV->Prop)(hQ:Q (ND b n o (gG (pF b.l) 1 b.ps b.ps.length))):
  aw prog 0 ahE (oX (aw prog 0 Za) (NF Q)) ⟨eN n o 1,ku b⟩:=by
 have fb:=hb.hp;refine ax (λi=>i<=b.ps.length) [1,2,22,23,240] (λi=>[(24,am .i64 (gG (pF b.l) 1 b.ps i:Nat)),(241,am .i64 (i:Nat))]) (λ_=>ku b) (λi=>b.ps.length-i) 0 (aad _) ?_ (λi hi=>?_)
 .refine View.o1 5 [0,1,2,3,4] [] (iX b 5 [])
 have hi:i<=b.ps.length:=hi;refine an (λh=>?_) (λh=>?_)
 .have ay:i<b.ps.length:=K3 h;have hs:=rG (f:=pF b.l) (n0:=1) ay;have yes:Sx b.l i b.ps[i]=true->gG (pF b.l) 1 b.ps (i+1)=i+1:=λhk=>by rw[hs,pF,hk];rfl
  have no:Sx b.l i b.ps[i]=false->gG (pF b.l) 1 b.ps (i+1)=gG (pF b.l) 1 b.ps i:=λhk=>by rw[hs,pF,hk];rfl
  have hm:b.ps.length-(i+1)<b.ps.length-i:=om;refine an (λh0=>?_) (λh0=>?_)
  .have h0:0<i:=by have h0:(i:Int)>0:=h0;omega
   refine af (zV ay) ?_;refine af (bq aM.enc b.ps ay) ?_;refine aC (λbR=>?_) (λbR=>?_)
   .refine⟨i+1,ay,hm,View.o 5 [0,1,2,3,4] [] ?_ (iX b 5 [])⟩;rw[yes (by unfold Sx;rw[bR,decide_eq_true h0];rfl)]
    repeat(first|exact .nil|refine .aL ?_|refine .put (.aO (bC om).symm) ?_|refine .eq rfl ?_)
   .refine vX b.l hb.hl (i:Nat) (id:=2) rfl ?_;refine aC (λhh=>?_) (λhh=>?_)
    .refine⟨i+1,ay,hm,View.o 5 [0,1,2,3,4] [] ?_ (iX b 5 [])⟩;rw[yes (by unfold Sx;rw[bR,decide_eq_true h0,hh];rfl)]
     repeat(first|exact .nil|refine .aL ?_|refine .put (.aO (bC om).symm) ?_|refine .eq rfl ?_)
    .refine⟨i+1,ay,hm,View.o 5 [0,1,2,3,4] [] ?_ (iX b 5 [])⟩;rw[no (by unfold Sx;rw[bR,decide_eq_true h0,hh];rfl)]
     repeat(first|exact .nil|refine .aL ?_|refine .put (.aO (bC om).symm) ?_|refine .eq rfl ?_)
  .have h0:¬0<i:=by have h0:¬(i:Int)>0:=h0;omega
   refine⟨i+1,ay,hm,View.o 5 [0,1,2,3,4] [] ?_ (iX b 5 [])⟩;rw[no (by unfold Sx;rw[decide_eq_false h0];rfl)]
   repeat(first|exact .nil|refine .aL ?_|refine .put (.aO (bC om).symm) ?_|refine .eq rfl ?_)
 .have h9:=K4 h;have iD:i=b.ps.length:=om;subst iD;refine⟨_,View.o1 5 [0,1,2,3,4] [] (iX b 5 []),ahG b n o _ ho Q hQ⟩
theorem ahJ(b:Kx)(hb:Dz b)(n:Nat)(Q:CV->Prop)(hQ:Q (ND b n (gG oF 0 b.ops b.ops.length) (gG (pF b.l) 1 b.ps b.ps.length))):
  aw prog 0 ahD (oX (aw prog 0 Y9) (NF Q)) ⟨eN n 0 1,ku b⟩:=by
 have jE:=hb.ho;refine ax (λi=>i<=b.ops.length) [1,2,22,24,224] (λi=>[(23,am .i64 (gG oF 0 b.ops i:Nat)),(225,am .i64 (i:Nat))]) (λ_=>ku b) (λi=>b.ops.length-i) 0 (aad _) ?_ (λi hi=>?_)
 .refine View.o1 5 [0,1,2,3,4] [] (iX b 5 [])
 have hi:i<=b.ops.length:=hi;refine an (λh=>?_) (λh=>?_)
 .have ay:i<b.ops.length:=K3 h;have hs:=rG (f:=oF) (n0:=0) ay;have hm:b.ops.length-(i+1)<b.ops.length-i:=om;refine af (zV ay) ?_;refine af (bq aV.enc b.ops ay) ?_;refine an (λh0=>?_) (λh0=>?_)
  .refine⟨i+1,ay,hm,View.o 5 [0,1,2,3,4] [] ?_ (iX b 5 [])⟩;rw[show gG oF 0 b.ops (i+1)=i+1 from by rw[hs,oF,if_pos h0]]
   repeat(first|exact .nil|refine .aL ?_|refine .put (.aO (bC om).symm) ?_|refine .eq rfl ?_)
  .refine⟨i+1,ay,hm,View.o 5 [0,1,2,3,4] [] ?_ (iX b 5 [])⟩;rw[show gG oF 0 b.ops (i+1)=gG oF 0 b.ops i from by rw[hs,oF,if_neg h0]]
   repeat(first|exact .nil|refine .aL ?_|refine .put (.aO (bC om).symm) ?_|refine .eq rfl ?_)
 .have h9:=K4 h;have iD:i=b.ops.length:=om;subst iD;refine⟨_,View.o1 5 [0,1,2,3,4] [] (iX b 5 []),ahI b hb n _ (DA _ _) Q hQ⟩
theorem ahK(b:Kx)(hb:Dz b)(Q:CV->Prop)(hQ:Q (ND b (gG nF 1 b.l b.l.length) (gG oF 0 b.ops b.ops.length) (gG (pF b.l) 1 b.ps b.ps.length))):
  aw prog 0 adc (oX (aw prog 0 Vd) (NF Q)) ⟨eN 1 0 1,ku b⟩:=by
 have jE:=hb.hl;refine ax (λi=>i<=b.l.length) [1,2,23,24,203] (λi=>[(22,am .i64 (gG nF 1 b.l i:Nat)),(204,am .i64 (i:Nat))]) (λ_=>ku b) (λi=>b.l.length-i) 0 (aad _) ?_ (λi hi=>?_)
 .refine View.o1 5 [0,1,2,3,4] [] (iX b 5 [])
 have hi:i<=b.l.length:=hi;refine an (λh=>?_) (λh=>?_)
 .have ay:i<b.l.length:=K3 h;have hs:=rG (f:=nF) (n0:=1) ay;have hm:b.l.length-(i+1)<b.l.length-i:=om;refine af (zV ay) ?_;refine af (bq Obj.enc b.l ay) ?_;refine aC (λhk=>?_) (λhk=>?_)
  .have hk:b.l[i].ah≠0:=by simpa using hk
   refine an (λh0=>?_) (λh0=>?_)
   .have h0:gG nF 1 b.l i<=i:=by have h0:(i:Int)>=((gG nF 1 b.l i:Nat):Int):=h0;omega
    refine⟨i+1,ay,hm,View.o 5 [0,1,2,3,4] [] ?_ (iX b 5 [])⟩;rw[show gG nF 1 b.l (i+1)=i+1 from by rw[hs,nF,if_pos ⟨hk,h0⟩]]
    repeat(first|exact .nil|refine .aL ?_|refine .put (.aO (bC om).symm) ?_|refine .eq rfl ?_)
   .have h0:¬gG nF 1 b.l i<=i:=by have h0:¬(i:Int)>=((gG nF 1 b.l i:Nat):Int):=h0;omega
    refine⟨i+1,ay,hm,View.o 5 [0,1,2,3,4] [] ?_ (iX b 5 [])⟩;rw[show gG nF 1 b.l (i+1)=gG nF 1 b.l i from by rw[hs,nF,if_neg (λh=>h0 h.2)]]
    repeat(first|exact .nil|refine .aL ?_|refine .put (.aO (bC om).symm) ?_|refine .eq rfl ?_)
  .have hk:b.l[i].ah=0:=by simpa using hk
   refine⟨i+1,ay,hm,View.o 5 [0,1,2,3,4] [] ?_ (iX b 5 [])⟩;rw[show gG nF 1 b.l (i+1)=gG nF 1 b.l i from by rw[hs,nF,if_neg (λh=>h.1 hk)]]
   repeat(first|exact .nil|refine .aL ?_|refine .put (.aO (bC om).symm) ?_|refine .eq rfl ?_)
 .have h9:=K4 h;have iD:i=b.l.length:=om;subst iD;refine⟨_,View.o1 5 [0,1,2,3,4] [] (iX b 5 []),ahJ b hb _ Q hQ⟩
def Wz(l:List Obj)(i:Nat)(p:aM):Bool:=decide (0<i)&&(!p.aF&& !(l.any (cD (i:Nat))))
def Sy(l:List Obj)(i:Nat)(p:aM):aM:=if Wz l i p=true then fI else p
def Zb(b:Kx):Kx:=⟨b.l,b.ops,b.ps.mapIdx (Sy b.l)⟩
theorem Dz.cl{b:Kx}(h:Dz b):Dz (Zb b):=by
 refine⟨h.g,h.hl,h.ho,?_,λp hp=>?_⟩
 .show(b.ps.mapIdx (Sy b.l)).length<=_;rw[ado];exact h.hp
 .obtain⟨i,x,hx,rfl⟩:=m4 hp;unfold Sy;split
  .exact aad _
  .exact h.hs x (Wm hx)
def K5(l:List Obj)(k t:Nat)(p:aM):aM:=if t<k then Sy l t p else p
theorem Ve{b:Kx}{P:List aM}(h:Pt b.ps P (K5 b.l b.ps.length)):P=(Zb b).ps:=by
 refine acq λi=>?_
 rw[show(Zb b).ps=b.ps.mapIdx (Sy b.l)from rfl,acJ];cases hx:b.ps[i]? with
 |none=>
  have:=adC.1 hx;exact adC.2 (by rw[h.1];exact this)
 |some x=>
  have:=(Mp.1 hx).1;rw[h.2 i x hx,K5,if_pos this];rfl
structure StC where
 i:Nat
 P:List aM
def ZN(b:Kx):CV:=ND (Zb b) (gG nF 1 b.l b.l.length) (gG oF 0 b.ops b.ops.length) (gG (pF b.l) 1 (Zb b).ps (Zb b).ps.length)
theorem xR(l:List Obj)(ops:List aV)(P:List aM)(n:Nat)(R:Mem):b8 (sg [0,1,2,3,4] n) (uP (.row 2 9 0 none) (.row 3 2 0 none) (.row 4 4 0 none)::gF:: .row 9 (aa (l.map Obj.enc)):: .row 2 (aa (ops.map aV.enc)):: .row 4 (aa (P.map aM.enc))::R) (λk=>bh [] k=true) 0 (ku ⟨l,ops,P⟩):=
 .pt rfl rfl (.eq rfl (by simp[uP])) (.pt rfl rfl (.eq rfl (by simp[gF])) (.pr rfl rfl rfl (.pr rfl rfl rfl (.pn rfl rfl rfl))))
theorem ahL(b:Kx)(hb:Dz b)(Q:CV->Prop)(hQ:Q (ZN b)):
  aw prog 0 ahC (oX (aw prog 0 U22) (NF Q)) ⟨jD 284 [(1,p0 0),(2,p0 1)],ku b⟩:=by
 have fb:=hb.hp;refine ax (λs:StC=>s.i<=b.ps.length/\Pt b.ps s.P (K5 b.l s.i)) [1,2,173] (λs=>[(174,am .i64 (s.i:Nat))]) (λs=>ku ⟨b.l,b.ops,s.P⟩) (λs=>b.ps.length-s.i) ⟨0,b.ps⟩ ⟨aad _,(Pt.refl b.ps).congr λt o _=>by simp[K5]⟩ ?_ (λs hJ=>?_)
 .refine View.o1 5 [0,1,2,3,4] [] (iX b 5 [])
 obtain⟨i,P⟩:=s;obtain⟨hi,hP⟩:=hJ;have hi:i<=b.ps.length:=hi;have hP:Pt b.ps P (K5 b.l i):=hP;have hPl:=hP.1;refine an (λh=>?_) (λh=>?_)
 .have ay:i<b.ps.length:=K3 h;obtain⟨Tl,Md⟩:=hP.at ay;have Md:P[i]=b.ps[i]:=by rw[Md];simp[K5]
  have hm:b.ps.length-(i+1)<b.ps.length-i:=om;have k6:∀t o,t≠i->K5 b.l (i+1) t o=K5 b.l i t o:=λt o ht=>by
   unfold K5;rcases aaD t i with h1|h1
   .rw[if_pos h1,if_pos om]
   .rw[if_neg om,if_neg om]
  have nB:Wz b.l i b.ps[i]=false->Pt b.ps P (K5 b.l (i+1)):=λhf=>hP.congr λt o Af=>by
   by_cases JV:t=i
   .subst JV;rw[xm ay]at Af;cases Af;rw[K5,K5,if_neg om,if_pos om,Sy,hf];rfl
   .exact(k6 t o JV).symm
  refine an (λh0=>?_) (λh0=>?_)
  .have h0:0<i:=by have h0:(i:Int)>0:=h0;omega
   refine af (zV Tl) ?_;refine af (bq aM.enc P Tl) ?_;refine aC (λbR=>?_) (λbR=>?_)
   .rw[Md]at bR;refine vX b.l hb.hl (i:Nat) (id:=2) rfl ?_;refine aC (λhh=>?_) (λhh=>?_)
    .have he:Wz b.l i b.ps[i]=true:=by unfold Wz;rw[bR,hh];simp[h0]
     refine af (zV Tl) ?_;refine af (bq aM.enc P Tl) ?_;have hs:=hP.set (j:=i) (x:=fI) (g:=K5 b.l (i+1)) (λo Af=>by rw[xm ay]at Af;cases Af;rw[K5,if_pos om,Sy,he];rfl) (λt o JV _=>k6 t o JV)
     refine⟨⟨i+1,P.set i fI⟩,⟨ay,hs⟩,hm,View.o2 5 [0,1,2,3,4] [] ?_⟩
     .exact .pt rfl rfl (.eq rfl (by simp[uP])) (.pt rfl rfl (.eq rfl (by simp[gF])) (.pr rfl rfl rfl (.pr rfl rfl rfl (.pt rfl rfl (Pz P i) (.nil _)))))
    .refine⟨⟨i+1,P⟩,⟨ay,nB (by unfold Wz;rw[hh];simp)⟩,hm,View.o2 5 [0,1,2,3,4] [] (xR b.l b.ops P 5 [])⟩
   .rw[Md]at bR;refine⟨⟨i+1,P⟩,⟨ay,nB (by unfold Wz;rw[bR];simp)⟩,hm,View.o2 5 [0,1,2,3,4] [] (xR b.l b.ops P 5 [])⟩
  .have h0:¬0<i:=by have h0:¬(i:Int)>0:=h0;omega
   refine⟨⟨i+1,P⟩,⟨ay,nB (by unfold Wz;rw[decide_eq_false h0];rfl)⟩,hm,View.o2 5 [0,1,2,3,4] [] (xR b.l b.ops P 5 [])⟩
 .have h9:b.ps.length<=i:=K4 h;have iD:i=b.ps.length:=om;subst iD;have hPe:=Ve hP;have fa:aw prog 0 adc (oX (aw prog 0 Vd) (NF Q)) ⟨eN 1 0 1,ku ⟨b.l,b.ops,P⟩⟩:=by rw[hPe];exact ahK (Zb b) hb.cl Q hQ
  refine⟨_,View.o1 5 [0,1,2,3,4] [] (xR b.l b.ops P 5 []),fa⟩
def E21(k:Kx):List CV:=aZ (aZ (gC [cA k.l k.ops k.ps] (iu 283 .undef)) 1 (p0 0)) 2 (p0 1)
theorem Vf(k:Kx)(hk:Dz k)(K:Ex->St->Prop)(hK:∀b,F4 k b->Dz b->ahB b K):
  aw prog 0 G21 K ⟨E21 k,[kB k.l k.ops k.ps,gF]⟩:=by
 refine ax (λa:StO=>Dz a.k/\(a.bX=true->Y7 k a.k)/\(a.bX=false->F4 k a.k)) [1,2] (λa=>[(3,ar a.bX)]) hdM (λa=>if a.bX then jo a.k.ps+1 else 0) ⟨k,true⟩ ⟨hk,λ_=>.refl,λh=>by cases h⟩ ?_ (λa hJ=>?_)
 .refine View.o1 2 [0,1] [] ?_
  .exact .au
 obtain⟨a,bX⟩:=a;obtain⟨hz,hT,hF⟩:=hJ;cases bX with
 |false=>
  refine hK a (hF rfl) hz _ _ (View.o1 5 [0,1,2,3,4] [] ?_)
  .exact .au
 |true=>
  have hT:=hT rfl;refine ahz a hz _ λL hL Q hQ e m hv=>?_
  generalize hb:(⟨rN L a.l,rd Q a.ops,AI (rN L a.l) a.ps⟩:Kx)=b;have hs:∀x,x=DP (rN L a.l) a.ps a.ps.length->uJ a b x:=λx hx=>by subst hb;exact⟨⟨L,Q,hL,hQ,rfl,rfl⟩,rfl,hx⟩
  cases hm:DP (rN L a.l) a.ps a.ps.length with
  |false=>
   rw[hm]at hv;have s:=hs false hm.symm;refine⟨⟨b,false⟩,⟨s.sz hz,(λh=>by cases h),λ_=>⟨a,hT,s⟩⟩,(show 0<jo a.ps+1 by omega),?_⟩
   subst hb;exact hv
  |true=>
   rw[hm]at hv;have s:=hs true hm.symm;refine⟨⟨b,true⟩,⟨s.sz hz,λ_=>.step hT s,λh=>by cases h⟩,(show jo b.ps+1<jo a.ps+1 by have:=s.ac9;omega),?_⟩
   subst hb;refine View.trans hv (View.o1 5 [0,1] [2,3,4] (ahA ⟨rN L a.l,rd Q a.ops,AI (rN L a.l) a.ps⟩))
theorem F5(k:Kx)(hk:Dz k):body prog c8 [cA k.l k.ops k.ps] [] (λr m=>∃c,(∃b,F4 k b/\Dz b/\c=ZN b)/\cM m r c):=
 Vf k hk _ λb hf hz e m hv=>⟨_,hv,ahL b hz (λc=>∃b,F4 k b/\Dz b/\c=ZN b) ⟨b,hf,hz,rfl⟩⟩
theorem NG(k:Kx)(hk:Dz k){m:Mem}{K:CV->Mem->Prop}(h:∀b,F4 k b->Dz b->K (ZN b) m):aq prog 8 [cA k.l k.ops k.ps] m K:=by
 refine aT (K0:=λr m=>∃c,(∃b,F4 k b/\Dz b/\c=ZN b)/\cM m r c) (cN func8 l8 (F5 k hk)) (by simp[cA,cX,de,dM,CV.cY,CC.cY,RV.cY]) λr m1 hr=>?_
 obtain⟨c,⟨b,hf,hz,rfl⟩,hc⟩:=hr;exact⟨_,hc,h b hf hz⟩
theorem F6{l:List Obj}{ops:List aV}{ps:List aM}{b:Mk}{L:List Nat}(hm:fZ l ops ps b)(hr:iM l ops ps L){n:Nat}(h:n∈L):dF b.O n:=
 hr.IJ.iO _ _ hm.cl hm.nA n h
theorem xN{ops:List aV}{c:Nat}{o:aV}(h:ops[c]? =some o):ek ops (c:Nat)=o.obj:=by
 rw[ek,if_pos om,show((c:Nat):Int).toNat=c from by omega,h]
theorem K6{l:List Obj}{ops:List aV}{ps:List aM}{b:Mk}{L:List Nat}(hm:fZ l ops ps b)(hr:iM l ops ps L):Pu (λn=>n∈L) (λc=>T2 l ps L l.length 0 (c:Nat)) b:=by
 refine hm.iO _ _ ⟨λi o hi ho z n hz hn=>hr.ce i o hi ho z hz n hn,λi o hi ho z c hz hc=>?_,λc o hc ho n hn=>?_⟩ ⟨hr.IJ.aA,λp pr hp hl s hs hh c hc=>?_⟩
 .obtain⟨q,hq,hh,rfl⟩:=hz;obtain⟨k,hk⟩:=ad0.1 hq;have fh:=(Mp.1 ho).1;exact .inr ⟨i,o,k,q,hi,ho,hk,hh,.inl fh,hc.1.symm⟩
 .rcases hc with⟨i,pr,k,s,h1,h2,h3,h4,_,h6⟩|⟨i,o2,k,q,h1,h2,h3,h4,_,h6⟩
  .exact hr.cp i pr h1 h2 s (Wm h3) h4 n (by rw[<-h6,xN ho];exact hn)
  .exact hr.cq i o2 h1 h2 q (Wm h3) h4 n (by rw[<-h6,xN ho];exact hn)
 .obtain⟨k,hk⟩:=ad0.1 hs;have MV:=(Mp.1 hp).1;exact .inl ⟨p,pr,k,s,hp,hl,hk,hh,.inl MV,hc.1.symm⟩
theorem RW{l:List Obj}{ops:List aV}{ps:List aM}{b:Mk}{L:List Nat}(hm:fZ l ops ps b)(hr:iM l ops ps L)(n:Nat):n∈L↔dF b.O n:=
 ⟨F6 hm hr,(K6 hm hr).1 n⟩
theorem RX{l:List Obj}{ops:List aV}{ps:List aM}{b:Mk}{L:List Nat}{Q:List Int}(hm:fZ l ops ps b)(hr:iM l ops ps L)(hQ:xQ l ps L Q){c:Nat}(hc:c<ops.length):pT Q (c:Nat)=true↔dF b.P c:=by
 rw[hQ (c:Nat)];constructor
 .rintro(⟨i,pr,k,s,h1,h2,h3,h4,_,h6⟩|⟨i,o2,k,q,h1,h2,h3,h4,_,h6⟩)
  .exact hm.nA.2 i pr h1 h2 s (Wm h3) h4 c ⟨h6.symm,hc⟩
  .exact hm.cl.q i o2 (F6 hm hr h1) h2 q.ct c ⟨q,Wm h3,h4,rfl⟩ ⟨h6.symm,hc⟩
 .exact(K6 hm hr).2 c
structure Vg(l:List Obj):Prop where
 z:∀o,o∈l->o.ah=0->o=dU
 p:∀o,o∈l->o.ah=4->o.aI= -1\/∃(i:Nat)(x:Obj),o.aI=(i:Int)/\l[i]? =some x/\x.ah≠0
theorem k9{L:List Bool}{i:Nat}:(L[i]? ==some true)=true↔dF L i:=by
 unfold dF;cases L[i]? with
 |none=>simp
 |some x=>cases x<;>simp
theorem DB{L:List Bool}{i:Nat}(h:¬dF L i):(!(L[i]? ==some true))=true:=by
 cases hb:(L[i]? ==some true)with
 |false=>rfl
 |true=>exact absurd (k9.1 hb) h
theorem NH{l:List Obj}{ops:List aV}{ps:List aM}{b:Mk}{L:List Nat}(hm:fZ l ops ps b)(hr:iM l ops ps L)(hk:Vg l){i:Nat}{o:Obj}(ho:l[i]? =some o):cg b l l.length i o=B4 L i o:=by
 have hi:=(Mp.1 ho).1;have Zc:=RW hm hr;by_cases hL:i∈L
 .have iF:nD L (i:Nat)=true:=fT.2 hL;have hb:(b.O[i]? ==some true)=true:=k9.2 ((Zc i).1 hL);have hd:dD b l i=false:=by rw[dD,ho];simp[hb]
  rw[B4,iF,cg,hd];simp only[Bool.false_and,adz,if_false];by_cases h4:o.ah=4
  .rcases hk.p o (Wm ho) h4 with hp|⟨j,x,hp,hx,Yk⟩
   .have e:({o with aI:= -1}:Obj)=o:=by rw[<-hp]
    rw[e];simp
   .have hj:=(Mp.1 hx).1;have hz:lq b l l.length o.aI= !(nD L o.aI):=by
     rw[hp,lq];have e1:decide (0<=(j:Int)/\(j:Int).toNat<l.length)=true:=decide_eq_true ⟨om,om⟩;rw[e1,show(j:Int).toNat=j from by omega,dD,hx,adJ]
     have e2:(x.ah !=0)=true:=by simpa using Yk
     show(!(b.O[j]? ==some true)&&x.ah !=0)=_;rw[e2,afm];cases Zu:nD L (j:Nat)with
     |true=>rw[k9.2 ((Zc j).1 (fT.1 Zu))]
     |false=>
      rw[DB λh=>by rw[fT.2 ((Zc j).2 h)]at Zu;cases Zu]
      rfl
    rw[hz];cases hq:nD L o.aI<;>simp[h4]
  .simp[h4]
 .have iF:nD L (i:Nat)=false:=by
   cases h:nD L (i:Nat)with
   |false=>rfl
   |true=>exact absurd (fT.1 h) hL
  have hb:(!(b.O[i]? ==some true))=true:=DB λh=>hL ((Zc i).2 h)
  rw[B4,iF,if_pos rfl,cg];by_cases h0:o.ah=0
  .have hz:=hk.z o (Wm ho) h0;have hd:dD b l i=false:=by rw[dD,ho];simp[h0]
   rw[hd,hz];simp[dU]
  .have hd:dD b l i=true:=by rw[dD,ho];show(!(b.O[i]? ==some true)&&o.ah !=0)=true;rw[hb];simpa using h0
   rw[hd,decide_eq_true hi];rfl
theorem Vg.round{l:List Obj}{ops:List aV}{ps:List aM}{L:List Nat}(hk:Vg l)(hr:iM l ops ps L):Vg (rN L l):=by
 refine⟨λo ho h0=>?_,λo ho h4=>?_⟩
 .obtain⟨i,x,hx,rfl⟩:=m4 ho;unfold B4 at h0|-;split at h0
  .rw[if_pos (by assumption)]
  .rename_i iF;have iF:i∈L:=fT.1 (by simpa using iF)
   obtain⟨_,o2,h2,h3⟩:=hr.IJ.val i iF;rw[hx]at h2;cases h2;split at h0<;>exact absurd h0 h3
 .obtain⟨i,x,hx,rfl⟩:=m4 ho;unfold B4 at h4|-;split at h4
  .cases h4
  .rename_i iF;rw[if_neg iF];split at h4
   .rename_i hc;rw[if_pos hc];exact .inl rfl
   .rename_i hc;rw[if_neg hc];rcases hk.p x (Wm hx) h4 with hp|⟨j,y,hp,hy,M4⟩
    .exact .inl hp
    .have hj:nD L (j:Nat)=true:=by
      cases h:nD L (j:Nat)with
      |true=>rfl
      |false=>exact absurd ⟨h4,by rw[hp];exact h⟩ hc
     refine .inr ⟨j,B4 L j y,hp,by rw[rN,acJ,hy];rfl,?_⟩
     unfold B4;rw[hj,if_neg aG];split<;>exact M4
theorem B6(l':List Obj)(ps:List aM):∀k,ix l' ps k=DP l' ps k
 |0=>rfl
 |k+1=>by have ih:=B6 l' ps k;rw[DP,<-ih];unfold ix;rw[ad8,List.any_append,aeI,List.any_nil,Bool.or_false,Bool.or_comm];rfl
theorem kQ{α:Type}{l L:List α}{f:Nat->α->α}(h:Pt l L f):L=l.mapIdx f:=by
 refine acq λi=>?_
 rw[acJ];cases hx:l[i]? with
 |none=>exact adC.2 (by rw[h.1];exact adC.1 hx)
 |some x=>rw[h.2 i x hx];rfl
theorem rH{α β:Type}{f g:Nat->α->β}{l:List α}(h:∀(i:Nat)x,l[i]? =some x->f i x=g i x):l.mapIdx f=l.mapIdx g:=by
 refine acq λi=>?_
 rw[acJ,acJ];cases hx:l[i]? with
 |none=>rfl
 |some x=>rw[aaS,aaS,h i x hx]
theorem pC{l:List Obj}{ops:List aV}{ps:List aM}{O:List Obj}{O2:List aV}{O3:List aM}{en:Bool}(h:cI l ops ps O O2 O3 en)(hk:Vg l){b:Kx}{bX:Bool}(s:uJ ⟨l,ops,ps⟩ b bX):
  O=b.l/\O2=b.ops/\O3=b.ps/\en=bX/\Vg b.l:=by
 obtain⟨⟨mk,hm,hO,hO2⟩,hO3,mJ⟩:=h;obtain⟨⟨L,Q,hr,hQ,e1,e2⟩,e3,e4⟩:=s;have hr:iM l ops ps L:=hr;have hQ:xQ l ps L Q:=hQ;have e1:b.l=rN L l:=e1;have e2:b.ops=rd Q ops:=e2;have a1:O=b.l:=by rw[kQ hO,e1,rN];exact rH λi o ho=>NH hm hr hk ho
 have a2:O2=b.ops:=by
  rw[kQ hO2,e2,rd];refine rH λi o ho=>?_
  have hi:=(Mp.1 ho).1;have Zc:=RX hm hr hQ hi;rw[AA,I8,decide_eq_true hi,adJ];cases hq:pT Q (i:Nat)with
  |true=>rw[k9.2 (Zc.1 hq)];rfl
  |false=>
   rw[DB λh=>by rw[Zc.2 h]at hq;cases hq]
   rfl
 have a3:O3=b.ps:=by
  rw[kQ hO3,e3,a1,AI];refine rH λi o ho=>?_
  have hi:=(Mp.1 ho).1;rw[vn,RR,decide_eq_true hi,adJ];rfl
 refine⟨a1,a2,a3,?_,by rw[e1];exact hk.round hr⟩
 rw[mJ,e4,a1];exact B6 b.l ps ps.length
theorem rf{α:Type}{q:Nat->α->Bool}{mn:Nat}{L:List α}{a b:Nat}(ha:jO q mn L a)(hb:jO q mn L b):a=b:=by
 have key:∀{a b:Nat},jO q mn L a->jO q mn L b->¬a<b:=λ{a b}ha hb ay=>by
  have h1:=ha.t.mn;have h2:=hb.t.le;rcases hb.e with h3|⟨o,ho,hq⟩
  .omega
  .have:=ha.t.dr (b-1) o om ho;rw[hq]at this;cases this
 have h1:=key ha hb;have h2:=key hb ha;omega
structure RY{α:Type}(g:Nat->α->Bool)(n0:Nat)(L:List α)(k N:Nat):Prop where
 lo:n0<=N
 hi:N<=n0\/N<=k
 dr:∀t x,N<=t->t<k->L[t]? =some x->g t x=false
 ls:N=n0\/∃x,L[N-1]? =some x/\g (N-1) x=true/\0<N
theorem qK{α:Type}{f:Nat->Nat->α->Nat}{g:Nat->α->Bool}{n0:Nat}{L:List α}(h0:∀t x,t<n0->g t x=false)(hf:∀n i x,n0<=n->(n<=n0\/n<=i)->f n i x=if g i x=true then i+1 else n):∀k,k<=L.length->RY g n0 L k (gG f n0 L k)
 |0,_=>⟨aah _,.inl (aah _),λt x _ h=>absurd h (abq t),.inl rfl⟩
 |k+1,hk=>by
  have ih:=qK (f:=f) (g:=g) (L:=L) h0 hf k om;have ay:k<L.length:=hk;rw[rG ay,hf _ k _ ih.lo ih.hi];cases hg:g k L[k]with
  |true=>
   have hn:n0<=k:=by
    rcases aaD k n0 with h|h
    .rw[h0 k _ h]at hg;cases hg
    .exact h
   rw[if_pos rfl];exact⟨om,.inr (aah _),λt x h1 h2=>om,.inr ⟨L[k],xm ay,hg,om⟩⟩
  |false=>
   rw[if_neg aG];refine⟨ih.lo,by have:=ih.hi;omega,λt x h1 h2 hx=>?_,ih.ls⟩
   by_cases ht:t=k
   .subst ht;rw[xm ay]at hx;cases hx;exact hg
   .exact ih.dr t x h1 om hx
theorem RY.tru{α:Type}{g q:Nat->α->Bool}{n0:Nat}{L:List α}{N:Nat}(h:RY g n0 L L.length N)(h0:∀t x,t<n0->g t x=false)(hq:∀t x,n0<=t->q t x= !(g t x)):jO q n0 L (dN N L.length):=by
 have Lz:dN N L.length=N\/(L.length<N/\dN N L.length=L.length):=by
  unfold dN;split
  .exact .inr ⟨om,rfl⟩
  .exact .inl rfl
 have iY:=h.lo;have hle:=vY N L.length;refine⟨⟨hle,by rcases Lz with e|⟨_,e⟩<;>omega,λt x ht hx=>?_⟩,?_⟩
 .have JW:=(Mp.1 hx).1;have hN:N<=t:=by rcases Lz with e|⟨_,e⟩<;>omega
  rw[hq t x om,h.dr t x hN JW hx];rfl
 .rcases h.ls with e|⟨x,hx,hg,hp⟩
  .left;rcases Lz with e2|⟨_,e2⟩<;>omega
  .right;have hxl:=(Mp.1 hx).1;have e:dN N L.length=N:=by rcases Lz with e|⟨_,e⟩<;>omega
   rw[e];refine⟨x,hx,?_⟩;have:n0<=N-1:=by
    rcases aaD (N-1) n0 with h1|h1
    .rw[h0 _ x h1]at hg;cases hg
    .exact h1
   rw[hq _ x this,hg];rfl
theorem ahO(l:List Obj):jO qO 1 l (dN (gG nF 1 l l.length) l.length):=by
 have h0:∀t(x:Obj),t<1->(λ(i:Nat)(o:Obj)=>decide (1<=i)&&o.ah !=0) t x=false:=λt x h=>by have:t=0:=om;subst this;rfl
 refine(qK (g:=λi o=>decide (1<=i)&&o.ah !=0) h0 (λn i x h1 h2=>?_) l.length (aah _)).tru h0 λt x ht=>?_
 .unfold nF;by_cases hk:x.ah=0
  .simp[hk]
  .by_cases hi:1<=i
   .rw[if_pos ⟨hk,om⟩,if_pos (by simp[hi,hk])]
   .rw[if_neg (λh=>by have:=h.2;omega),if_neg (by simp[hi])]
 .simp[qO,ht,bne]
theorem ahP(ops:List aV):jO qP 0 ops (gG oF 0 ops ops.length):=by
 have h:=(qK (f:=oF) (g:=λ(_:Nat)(o:aV)=>decide (0<=o.obj)) (n0:=0) (L:=ops) (λt x h=>absurd h (abq t)) (λn i x h1 h2=>by unfold oF;by_cases h:0<=x.obj<;>simp[h]) ops.length (aah _)).tru (q:=qP) (λt x h=>absurd h (abq t)) λt x ht=>by
  unfold qP;by_cases h:0<=x.obj
  .simp[h]
  .simp[h];omega
 have e:dN (gG oF 0 ops ops.length) ops.length=gG oF 0 ops ops.length:=by have:=DA ops ops.length;unfold dN;rw[if_neg om]
 rw[e]at h;exact h
theorem ahQ(l:List Obj)(ps:List aM):jO (qR l) 1 ps (dN (gG (pF l) 1 ps ps.length) ps.length):=by
 have h0:∀t(x:aM),t<1->Sx l t x=false:=λt x h=>by have:t=0:=om;subst this;rfl
 refine(qK (g:=Sx l) h0 (λn i x h1 h2=>rfl) ps.length (aah _)).tru h0 λt x ht=>?_
 unfold qR Sx;rw[decide_eq_true (by omega:0<t),adJ,Bool.not_or]
theorem NI{l:List Obj}{n:Nat}(h:jO qO 1 l n)(p:Int):(l.take n).any (cD p)=l.any (cD p):=by
 cases hb:l.any (cD p)with
 |false=>
  rw[afw]at hb|-;exact λx hx=>hb x (acQ hx)
 |true=>
  rw[acf]at hb|-;obtain⟨x,hx,hh⟩:=hb;obtain⟨t,ht⟩:=ad0.1 hx;refine⟨x,?_,hh⟩;rcases aaD t n with h2|h2
  .exact Wm (by rw[adq h2];exact ht)
  .have:=h.t.dr t x h2 ht;unfold qO at this;unfold cD at hh;have h3:x.ah=0:=by simpa using this
   rw[h3]at hh;cases hh
theorem NJ{k a:Kr}(h:ig k a):a=k\/∃x,cI k.l k.ops k.ps x.l x.ops x.ps true/\ig x a:=by
 induction h with
 |refl=>exact .inl rfl
 | @step a b h s ih=>
  rcases ih with rfl|⟨x,hx,Tm⟩
  .exact .inr ⟨b,s,.refl⟩
  .exact .inr ⟨x,hx,.step Tm s⟩
theorem F7{k a:Kx}(h:Y7 k a):a=k\/∃x,uJ k x true/\Y7 x a:=by
 induction h with
 |refl=>exact .inl rfl
 | @step a b h s ih=>
  rcases ih with rfl|⟨x,hx,Tm⟩
  .exact .inr ⟨b,s,.refl⟩
  .exact .inr ⟨x,hx,.step Tm s⟩
theorem F8:∀(n:Nat)(l:List Obj)(ops:List aV)(ps:List aM),jo ps=n->Vg l->∀(a c:Kr),ig ⟨l,ops,ps⟩ a->cI a.l a.ops a.ps c.l c.ops c.ps false->∀b,F4 ⟨l,ops,ps⟩ b->c.l=b.l/\c.ops=b.ops/\c.ps=b.ps:=by
 intro n
 induction n using Nat.strongRecOn with
 |_ n ih=>
  intro l ops ps hn hk a c ha hc b ⟨a',ha',hb⟩;rcases NJ ha with rfl|⟨x,hx,Tm⟩
  .rcases F7 ha' with rfl|⟨y,hy,hya⟩
   .obtain⟨h1,h2,h3,_,_⟩:=pC hc hk hb;exact⟨h1,h2,h3⟩
   .have:=(pC hc hk hy).2.2.2.1;cases this
  .rcases F7 ha' with rfl|⟨y,hy,hya⟩
   .have:=(pC hx hk hb).2.2.2.1;cases this
   .obtain⟨h1,h2,h3,_,mC⟩:=pC hx hk hy;have adg:=hy.ac9;obtain⟨xl,xo,xp⟩:=x;obtain⟨yl,yo,yp⟩:=y;cases h1;cases h2;cases h3;exact ih (jo xp) (by rw[<-hn];exact adg) xl xo xp rfl mC a c Tm hc b ⟨a',hya,hb⟩
theorem F9{k a c d:Kr}(hk:Vg k.l)(ha:ig k a)(hc:cI a.l a.ops a.ps c.l c.ops c.ps false)(hd:gX c d){b:Kx}(hb:F4 ⟨k.l,k.ops,k.ps⟩ b):cA d.l d.ops d.ps=ZN b:=by
 obtain⟨e1,e2,e3⟩:=F8 _ k.l k.ops k.ps rfl hk a c ha hc b hb;obtain⟨n1,n2,n3,P,h1,h2,hP,h3,rfl⟩:=hd;obtain⟨cl,co,cp⟩:=c;obtain⟨bl,bo,bp⟩:=b;cases e1;cases e2;cases e3;have h1:jO qO 1 cl n1:=h1;have h2:jO qP 0 co n2:=h2;have hP:Pt cp P (gq (cl.take n1) cp.length):=hP;have h3:jO (qR (cl.take n1)) 1 P n3:=h3;have hh:=NI h1;have hPe:P=cp.mapIdx (Sy cl):=by
  rw[kQ hP];refine rH λi x hx=>?_
  have hi:=(Mp.1 hx).1;rw[gq,Sy,decide_eq_true hi,adJ,qZ,hh,Wz]
 have hqR:qR (cl.take n1)=qR cl:=by funext t o;rw[qR,qR,hh]
 rw[hqR]at h3;subst hPe;have t1:=rf h1 (ahO cl);have t2:=rf h2 (ahP co);have t3:=rf h3 (ahQ cl (cp.mapIdx (Sy cl)));subst t1 t2 t3;rfl
namespace Kn
theorem KI.ahR{k:Kr}(h:KI k):Vg k.l:=by
 refine⟨h.z,λo ho hk=>?_⟩
 obtain⟨i,hi⟩:=aag ho;rcases h.pe i o hi hk with e|⟨j,x,e,hx,hx4,-⟩
 .exact .inl e
 .exact .inr ⟨j,x,e,hx,om⟩
theorem Vh(k:Kr)(h:KI k){m:Mem}{K:CV->Mem->Prop}(hK:K (cA (dZ k).l (dZ k).ops (dZ k).ps) m):aq prog 8 [cA k.l k.ops k.ps] m K:=by
 obtain⟨a,c,h1,h2,h3⟩:=(eT h.kr).ex;refine NG ⟨k.l,k.ops,k.ps⟩ ?_ λb hb _=>?_
 .exact⟨h.sm,by have:=h.ll;show k.l.length<=4194304;omega,by have:=h.lo;show k.ops.length<=4194304;omega,by have:=h.lp;show k.ps.length<=4194304;omega,λp hp=>by have:=h.sl p hp;omega⟩
 .rw[<-F9 h.ahR h1 h2 h3 hb];exact hK
end Kn
def c14:LF:=Cq prog Tryz.f14 [] []
def c15:LF:=Cq prog Tryz.f15 [] []
namespace Kn
theorem ahS:bA prog Tryz.f15=some c15.er:=by kernel_rfl
theorem Jb(a:An)(ha:bD a):body prog c15 [a.cv,a.cv] [] (λr m=>r=ar true):=by obtain⟨b,hb⟩:=ha;obtain⟨iq,n,x,data⟩:=a;simp only at hb;subst hb;refine bS aG ?_;refine bS aG ?_;refine bS aG ?_;refine af (oB b) ?_;refine af (oB b) ?_;show ar _=ar true;simp
theorem RZ(a:An)(ha:bD a){m:Mem}{K:CV->Mem->Prop}(h:K (ar true) m):aq prog 15 [a.cv,a.cv] m K:=
 qC func15 ahS rfl (aat rfl) (Jb a ha) (by simp[An.cv,An.rv,An.enc,CV.cY,CC.cY,RV.cY]) rfl h
theorem ahT:bA prog Tryz.f14=some c14.er:=by kernel_rfl
def pyV(prog:List eI)(k:Kr)(cs:List Cl):CV:= .bI [kn (kS prog k cs),.one (.ai (ahf (aS prog k cs)))]
theorem Vi(prog:List eI)(k:Kr)(hk:KI k)(cs:List Cl)(fF:No cs):body Tryz.prog c14 [qY prog,cA k.l k.ops k.ps,Nn cs] [] (λr m=>cM m r (pyV prog k cs)):=by
 have ia:=fF.l;refine ax (λi=>i<=cs.length) [0,4,6,13,14] (λi=>[(15,am .i64 (i:Nat)),(8,.rv (.one (.row 2 4 0 none)))])
   (λi=>[kB (kS prog k (cs.take i)),.var [.bv,.bv,.bv],.row 4 (aa ((aS prog k (cs.take i)).map An.enc))]) (λi=>cs.length-i) 0 (aad _) ?_ (λi hi=>?_)
 .refine View.trans (View.bv 8 4 2 rfl rfl rfl) (View.o1 3 [0,1,2] [] ?_)
  .exact .au
 have hi:i<=cs.length:=hi;refine an (λh=>?_) (λh=>?_)
 .have ay:i<cs.length:=by have h:(i:Int)<((cs.map Cl.enc).length:Int):=h;rw[P2]at h;omega
  have Sf:=KI.kS (prog:=prog) (cs.take i) hk;have ht:cs.take (i+1)=cs.take i++ [cs[i]]:=nt (xm ay);have hks:=KK prog k (cs.take i) cs[i];have has:=KL prog k (cs.take i) cs[i];rw[<-ht]at hks has;have hal:(aS prog k (cs.take i)).length<=1048576:=by rw[IX,abg];omega
  refine af (Rq ay) ?_;refine Yy prog (kS prog k (cs.take i)) Sf cs[i] (fF.d _ (aaP ay)) ?_;generalize nL prog (kS prog k (cs.take i)) cs[i]=D at hks has;obtain⟨k2,a2⟩:=D;refine⟨by simp only[bt,aa,P2,aaY,acg];omega,?_⟩
  refine⟨i+1,ay,(show cs.length-(i+1)<cs.length-i by omega),View.o2 8 [0,1,7] [] ?_⟩
  .rw[hks,has,abT];exact .pt rfl rfl (.eq rfl (oN _)) (.pe rfl rfl rfl (.pt rfl rfl (.bg (bU (List.map An.enc _) (List.map An.enc [_])).symm) (.nil _)))
 .have iD:i=cs.length:=by have h:¬(i:Int)<((cs.map Cl.enc).length:Int):=h;rw[P2]at h;omega
  subst iD;rw[abo];refine .bI rfl λi r r' h1 h2=>?_
  match i,h1,h2 with
  |0,h1,h2=>cases h1;cases h2;exact dK.self rfl
  |1,h1,h2=>cases h1;cases h2;exact .one (eF.db (ds:=(aS prog k cs).map An.enc) rfl 0 none)
  |n+2,h1,h2=>simp at h1
theorem WA(prog:List eI)(k:Kr)(hk:KI k)(cs:List Cl)(fF:No cs){m:Mem}{K:CV->Mem->Prop}(h:K (pyV prog k cs) m):aq Tryz.prog 14 [qY prog,cA k.l k.ops k.ps,Nn cs] m K:=
 aT (jJ func14 ahT rfl (aat rfl) (Vi prog k hk cs fF)) (by simp[qY,Nn,cA,cX,de,dM,CV.cY,CC.cY,RV.cY]) λr m1 hf=>⟨_,hf,h⟩
end Kn
def c3:LF:=Cq prog Tryz.f3 [] [[(eL 6 0 (.cons 6 (some []) (eL 15 7 (.cons 22 (some []) (eL 3 23 .nil)))))]]
namespace Kn
theorem Zd(pl:List Int):(aa (pl.map Fe.iE)).length=pl.length:=by rw[aJ,P2]
theorem Vj(pl:List Int)(z:Int):aa ((pl++ [z]).map Fe.iE)=aa (pl.map Fe.iE)++ [[.ai (.val (.int .i64 z))]]:=by rw[abT,bU];rfl
theorem ahV(G:List Nat)(hG:G.length<=4194304)(z:Int){m:Mem}{K:CV->Mem->Prop}(h:K (ar (decide (z∈Fe.nZ G))) m):aq prog 11 [Fe.BT G,am .i64 z] m K:=by
 rw[Fe.uB];exact Fe.Yv (Fe.nZ G) (by unfold Fe.nZ;rw[P2];exact hG) z h
end Kn
end Go.Proofs.YtllkfpggoigbaaaGreatDoor
