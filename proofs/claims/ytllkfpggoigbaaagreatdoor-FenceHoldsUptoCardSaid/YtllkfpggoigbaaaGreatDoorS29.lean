/- Part 29 of 35. -/
import Derived.Test.YtllkfpggoigbaaaGreatDoorS15
import Derived.Test.YtllkfpggoigbaaaGreatDoorS27
import Derived.Test.YtllkfpggoigbaaaGreatDoorS28
set_option linter.unusedVariables false
set_option linter.unusedSimpArgs false
set_option linter.unnecessarySimpa false
set_option maxRecDepth 100000
set_option maxHeartbeats 0
namespace Go.Proofs.YtllkfpggoigbaaaGreatDoor
open Proofs.Tryz
open Go.AM Go.ChangeShapes Go.WideShapes Go.ChangeAt Go.RowKit
def c10:LF:=Cq prog f10 [] []
namespace Fe
theorem l10:bs prog f10=some c10:=by kernel_rfl
def WS(l:List Obj)(ops:List aT)(ps:List aL)(s:List Nat×List Nat×Nat):Mem:=W4 l ops ps s.1 s.2
theorem vwC(l:List Obj)(ops:List aT)(ps:List aL)(H T:List Nat)(b:Bk)(R:Mem)(n:Nat):bW (sg [0,1,2,4] n) (kB l ops ps::kV l.length H::jB 4 0::b:: .row 1 (aa (T.map nI))::R) (λk=>bc [] k=true) 0 (WS l ops ps (H,T,0)):=
 .pt rfl rfl (.eq rfl (by simp[kB])) (.pr rfl rfl rfl (.pt rfl rfl (.eq rfl (by simp[jB])) (.pn rfl rfl rfl)))
theorem Yr(l:List Obj)(ops:List aT)(ps:List aL)(H T:List Nat)(b x:Bk)(R:Mem)(n:Nat):bW (sg [0,1,2,5] n) (kB l ops ps::kV l.length H::jB 5 0::b::x:: .row 1 (aa (T.map nI))::R) (λk=>bc [] k=true) 0 (WS l ops ps (H,T,0)):=
 .pt rfl rfl (.eq rfl (by simp[kB])) (.pr rfl rfl rfl (.pt rfl rfl (.eq rfl (by simp[jB])) (.pn rfl rfl rfl)))
structure BI(l:List Obj)(ops:List aT)(ps:List aL)(pl:List Int)(s:List Nat×List Nat×Nat):Prop where
 H2:Inv l ops ps pl s.1
 wi:WI l.length s
 rt:∀z,z∈EV ops ps pl->∀n,vO l z n->n∈s.1
 bf:∃p,p<=s.1.length/\s.2.1.drop s.2.2=s.1.drop p/\∀(j i:Nat),j<p->s.1[j]? =some i->∀o,l[i]? =some o->∀z,z∈Qg ops ps o->∀n,vO l z n->n∈s.1
theorem vwE(l:List Obj)(ops:List aT)(ps:List aL)(H T:List Nat)(c n:Nat)(hc:c<T.length)(R:Mem):bW (sg [0,1,2,3] n) (kB l ops ps::kV l.length H:: .var [.ptr 0 0,.row 1 1 0 none,.row 3 1 (fL c 1) (some (fL c (lenOf (aa (T.map nI)).length c none)))]:: .row 1 (aa (T.map nI))::R) (λk=>bc [] k=true) 0 (WS l ops ps (H,T,c+1)):=by
 have e1:fL c 1=c+1:=by cases c<;>rfl
 have hTl:(aa (T.map nI)).length=T.length:=by rw[aJ,O9]
 have e2:fL c (lenOf (aa (T.map nI)).length c none)=(aa (T.map nI)).length:=by
  rw[hTl];cases c with
  |zero=>rfl
  |succ c=>show c+1+(T.length-(c+1))=T.length;omega
 rw[e1,e2];refine .pt rfl rfl (.eq rfl (by simp[kB])) (.pr rfl rfl rfl (.pt rfl rfl (.var λi c' hi=>?_) (.pn rfl rfl rfl)))
 match i,hi with
 |0,hi=>cases hi;exact⟨_,rfl,.aN (.ptr 0 0)⟩
 |1,hi=>cases hi;exact⟨_,rfl,.aN (.row 1 1 0 none)⟩
 |2,hi=>cases hi;exact⟨_,rfl,sZ.lo (Y:=sg [0,1,2,3] n) 3 1 (c+1) (show(kB l ops ps::kV l.length H::_:: .row 1 (aa (T.map nI))::R)[3]? =_ from rfl)⟩
 |n+3,hi=>simp at hi
theorem Tp{ops:List aT}{ps:List aL}{o:Obj}{es:List NE}(he:o.ag=es.map bP){pre:List Int}(hp:(if o.ah=4 then [o.aG]else [])++(if o.ah=5 then gd ops ps o.aQ else [])=pre)(z:Int):z∈es.map (·.2)++(pre++ii ops o.aj)↔z∈Qg ops ps o:=by
 subst hp;have e1:enZ o=es.map (·.2):=by rw[enZ,he,ib]
 have e2:quZ ops o=ii ops o.aj:=rfl;rw[Qg,e1,e2];simp only[abH];constructor
 .rintro(h|(h|h)|h)
  .exact .inr (.inr (.inl h))
  .exact .inl h
  .exact .inr (.inl h)
  .exact .inr (.inr (.inr h))
 .rintro(h|h|h|h)
  .exact .inr (.inl (.inl h))
  .exact .inr (.inl (.inr h))
  .exact .inl h
  .exact .inr (.inr h)
theorem BI.end{l:List Obj}{ops:List aT}{ps:List aL}{pl:List Int}{s:List Nat×List Nat×Nat}(h:BI l ops ps pl s)(h0:s.2.1.drop s.2.2=[]):zZ l ops ps pl s.1:=by
 obtain⟨p,h1,h2,h3⟩:=h.bf;have hp:s.1.length<=p:=by rw[h2]at h0;exact List.drop_eq_nil_iff.1 h0
 refine {h.H2 with clo:=⟨λz hz n hn=>h.rt z hz n hn,λi o hi ho z hz n hn=>?_⟩}
 obtain⟨j,hj⟩:=aak hi;exact h3 j i (by have:=(Lw.1 hj).1;omega) hj o ho z hz n hn
def Xk(N:Nat)(s:List Nat×List Nat×Nat):Nat:=2*(N-s.1.length)+(s.2.1.drop s.2.2).length
theorem BI.next{l:List Obj}{ops:List aT}{ps:List aL}{pl:List Int}{H T:List Nat}{c x:Nat}{r:List Nat}{o:Obj}{zs:List Int}(h:BI l ops ps pl (H,T,c))(hx:T.drop c=x::r)(ho:l[x]? =some o)(hz:∀z,z∈zs↔z∈Qg ops ps o):
  BI l ops ps pl (bS l zs (H,T,c+1))/\Xk l.length (bS l zs (H,T,c+1))<Xk l.length (H,T,c):=by
 obtain⟨p,h1,h2,h3⟩:=h.bf;have h1:p<=H.length:=h1;have h2:T.drop c=H.drop p:=h2;have h3:∀(j i:Nat),j<p->H[j]? =some i->∀o,l[i]? =some o->∀z,z∈Qg ops ps o->∀n,vO l z n->n∈H:=h3;have hd:H.drop p=x::r:=h2.symm.trans hx;have eF:p<H.length:=by
  rcases aax p H.length with h|h
  .exact h
  .rw[ac2 h]at hd;cases hd
 have hxp:H[p]? =some x:=by
  have:=congrArg (λl=>l[0]?) hd
  simpa using this
 have hr:T.drop (c+1)=H.drop (p+1):=by
  have e1:T.drop (c+1)=(T.drop c).drop 1:=by rw[aeu]
  have e2:H.drop (p+1)=(H.drop p).drop 1:=by rw[aeu]
  rw[e1,e2,h2]
 have hI0:WI l.length (H,T,c+1):=⟨h.wi.nd,h.wi.lt,h.wi.le⟩;have RU:WI l.length (bS l zs (H,T,c+1)):=hI0.bS;obtain⟨d,d1,d2⟩:=zd l zs (H,T,c+1);have d1:(bS l zs (H,T,c+1)).1=H++d:=d1;have d2:(bS l zs (H,T,c+1)).2.1.drop (bS l zs (H,T,c+1)).2.2=T.drop (c+1)++d:=d2;have hmk:(bS l zs (H,T,c+1)).1=Tk l zs H:=wS l zs _;have hle:=RU.len;refine⟨⟨?_,RU,λz Ys n hn=>?_,p+1,?_,?_,λj i hj VP o' d5 z Ys n hn=>?_⟩,?_⟩
 .rw[hmk];exact h.H2.Tk λz Ys S hS hm n hn=>hS.s x o (hm x (Vm hxp)) ho z ((hz z).1 Ys) n hn
 .rw[hmk];exact wQ (h.rt z Ys n hn)
 .rw[d1,abT];omega
 .rw[d2,d1,hr,aep om]
 .rw[hmk];rw[d1]at VP;rcases aax j p with h4|h4
  .rw[aaW om]at VP;exact wQ (h3 j i h4 VP o' d5 z Ys n hn)
  .have:j=p:=om;subst this;rw[aaW eF,hxp]at VP;cases VP;rw[ho]at d5;cases d5;exact HX ((hz z).2 Ys) hn
 .show 2*(l.length-(bS l zs (H,T,c+1)).1.length)+((bS l zs (H,T,c+1)).2.1.drop (bS l zs (H,T,c+1)).2.2).length<2*(l.length-H.length)+(T.drop c).length;rw[d2,d1,abT,abT];have e1:(T.drop c).length=r.length+1:=by rw[hx];rfl
  have e2:(T.drop (c+1)).length=r.length:=by rw[abZ]at e1|-;omega
  have:=h.wi.len;rw[d1,abT]at hle;have:H.length<=l.length:=this;omega
def my(N:Nat)(H:List Nat)(i:Nat):List Nat:=(List.range i).filter λk=>decide (k∈H)
theorem Mq(N:Nat)(H:List Nat)(i:Nat):my N H (i+1)=my N H i++(if i∈H then [i]else []):=by
 unfold my;rw[ads,acx];by_cases h:i∈H<;>simp[h]
theorem tQ(N:Nat)(H:List Nat)(i:Nat):(my N H i).length<=i:=abJ (acn _ _) aD
def Xl(m:Mem)(r:CV)(L:List Nat):Prop:=∃id,r= .rv (.one (.row id 1 0 none))/\m[id]? =some (.row 1 (aa (L.map nI)))
def Bi(L:List Nat):CV:= .rv (.one (.ai (.sl 1 (L.map nI))))
theorem Qi(N:Nat):nl N []=List.replicate N false:=by unfold nl;rw[List.eq_replicate_iff];simp
theorem v8(l:List Obj)(ops:List aT)(ps:List aL)(pl:List Int)(hl:l.length<=4194304)(l4:∀o,o∈l->∃es:List NE,o.ag=es.map bP)(dQ:∀o,o∈l->o.ag.length<=4194304/\o.aj.length<=4194304)(eF:pl.length<=4194304)(i3:∀p,p∈ps->p.an.length<=4194304):
  body prog c10 [cA l ops ps,iY pl] [] (λr m=>∃L,zZ l ops ps pl L/\Xl m r (my l.length L l.length)):=by
 refine bV (adU _) ?_;refine⟨by rw[O9];omega,?_⟩
 refine ar (λi=>i<=pl.length) [2,5,23,24] (λi=>[(25,al .i64 (i:Nat))]) (λi=>WS l ops ps (bS l (EV ops ps (pl.take i)) ([],[],0))) (λi=>pl.length-i) 0 (WG _) ?_ (λi hi=>?_)
 .refine View.trans (View.R7 2 2 1 3 rfl rfl rfl rfl) (View.o1 4 [0,1,2,3] [] ?_)
  .exact .pt rfl rfl (.eq rfl (by simp[kB])) (.pt rfl rfl (.bn (ds:=(nl l.length []).map bE) (by rw[Qi,fK,O9];simp[aa,bE])) (.pt rfl rfl (.eq (show(jB 3 0).aN _=_ from rfl) (by simp[jB])) (.pt rfl rfl (.bn (ds:=([]:List Nat).map nI) rfl) (.nil _))))
 have hi:i<=pl.length:=hi;have hW0:WI l.length (([]:List Nat),([]:List Nat),0):=⟨aD,aD,aD⟩;have hWi:WI l.length (bS l (EV ops ps (pl.take i)) ([],[],0)):=hW0.bS;refine am (λh=>?_) (λh=>?_)
 .have pG:i<pl.length:=by have h:(i:Int)<((pl.map iE).length:Int):=h;rw[O9]at h;omega
  have e:bS l (EV ops ps (pl.take (i+1))) ([],[],0)=bS l (gd ops ps pl[i]) (bS l (EV ops ps (pl.take i)) ([],[],0)):=by rw[nH (wy pG),EV,List.flatMap_append,dj];simp[EV]
  refine af (CN pG) ?_;refine mw (JU l ops ps hl i3 pl[i] _ _ hWi) [] rfl (λe1=>?_) (λH' T' e1=>?_)
  .refine⟨i+1,pG,(show pl.length-(i+1)<pl.length-i by omega),View.o2 4 [0,1,2,3] [] (show bW _ _ _ 0 (WS l ops ps (bS l (EV ops ps (pl.take (i+1))) ([],[],0)))from by rw[e.trans e1];exact tP l ops ps _ _ 4 [])⟩
  .refine⟨i+1,pG,(show pl.length-(i+1)<pl.length-i by omega),View.o2 5 [0,1,2,4] [] (show bW _ _ _ 0 (WS l ops ps (bS l (EV ops ps (pl.take (i+1))) ([],[],0)))from by rw[e.trans e1];exact vwC l ops ps H' T' _ [] 5)⟩
 .have iw:i=pl.length:=by have h:¬(i:Int)<((pl.map iE).length:Int):=h;rw[O9]at h;omega
  subst iw;rw[abD]at hWi;rw[abD];have hB0:BI l ops ps pl (bS l (EV ops ps pl) ([],[],0)):=by
   obtain⟨d,d1,d2⟩:=zd l (EV ops ps pl) ([],[],0);have d1:(bS l (EV ops ps pl) ([],[],0)).1=d:=d1;have d2:(bS l (EV ops ps pl) ([],[],0)).2.1.drop (bS l (EV ops ps pl) ([],[],0)).2.2=d:=d2;have hI:Inv l ops ps pl ([]:List Nat):=⟨aD,aD,aD⟩;refine⟨?_,hWi,λz hz n hn=>by rw[wS];exact HX hz hn,0,WG _,by rw[d2,d1];rfl,λj i hj=>absurd hj (abE j)⟩
   rw[wS];exact hI.Tk λz hz S hS _ n hn=>hS.r z hz n hn
  generalize bS l (EV ops ps pl) ([],[],0)=s0 at hB0;clear hWi;refine ar (λs=>BI l ops ps pl s) [2,5] (λ_=>[]) (λs=>WS l ops ps s) (λs=>Xk l.length s) s0 hB0 ?_ (λs hB=>?_)
  .refine View.o1 4 [0,1,2,3] [] (tP l ops ps _ _ 4 [])
  obtain⟨H,T,c⟩:=s;have hB:BI l ops ps pl (H,T,c):=hB;have hTl:(aa (T.map nI)).length=T.length:=by rw[aJ,O9]
  have ix:lenOf (aa (T.map nI)).length c none=T.length-c:=by rw[hTl];cases c<;>simp[lenOf]
  refine am (λh=>?_) (λh=>?_)
  .have h:((lenOf (aa (T.map nI)).length c none:Nat):Int)>0:=h;rw[ix]at h;have hcT:c<T.length:=om;have hx:T.drop c=T[c]::T.drop (c+1):=acX hcT;have hxv:vO l (T[c]:Nat) T[c]:=hB.H2.val _ (by
    obtain⟨p,h1,h2,h3⟩:=hB.bf;have h2:T.drop c=H.drop p:=h2;have:T[c]∈T.drop c:=by have h9:=List.mem_cons_self (a:=T[c]) (l:=T.drop (c+1));rw[<-hx]at h9;exact h9
    rw[h2]at this;exact acB this)
   obtain⟨_,o,ho,_⟩:=hxv;have hn:T[c]<l.length:=(Lw.1 ho).1;have hoe:l[T[c]]=o:=(Lw.1 ho).2;refine af (x:=0) (by rw[ix];exact bJ (k:=0) om) ?_
   refine af (x:=[.ai (.val (.int .i64 (T[c]:Nat)))]) (by
    rw[aW,show fL c 0=c from by cases c<;>rfl]
    simp[aa,nI,hcT]) ?_
   refine bV (by show(Nat.ble 1 (lenOf (aa (T.map nI)).length c none)&&Nat.ble (lenOf (aa (T.map nI)).length c none) ((aa (T.map nI)).length-c))=true;rw[ix,hTl];simp[abR];omega) ?_
   have hg:=mW hn;rw[hoe]at hg;refine af hg ?_;have i7:o∈l:=Vm ho;obtain⟨es,oh⟩:=l4 o i7;have hz:=dQ o i7;have gu:∀pre,(if o.ah=4 then [o.aG]else [])++(if o.ah=5 then gd ops ps o.aQ else [])=pre->BI l ops ps pl (bS l (es.map (·.2)++(pre++ii ops o.aj)) (H,T,c+1))/\Xk l.length (bS l (es.map (·.2)++(pre++ii ops o.aj)) (H,T,c+1))<Xk l.length (H,T,c):=λpre hp=>hB.next hx ho (Tp oh hp)
   have Rh:WI l.length (H,T,c+1):=⟨hB.wi.nd,hB.wi.lt,hB.wi.le⟩;clear hg hoe ho;obtain⟨ah,data,ag,target,aG,aj,aQ,ak,up⟩:=o;have oh:ag=es.map bP:=oh;subst oh;have KR:es.length<=4194304:=by have h:=hz.1;have h:(es.map bP).length<=4194304:=h;rw[O9]at h;exact h
   have I6:aj.length<=4194304:=hz.2;have gu:∀pre,(if ah=4 then [aG]else [])++(if ah=5 then gd ops ps aQ else [])=pre->BI l ops ps pl (bS l (es.map (·.2)++(pre++ii ops aj)) (H,T,c+1))/\Xk l.length (bS l (es.map (·.2)++(pre++ii ops aj)) (H,T,c+1))<Xk l.length (H,T,c):=gu
   refine ar (λk=>k<=es.length) [2,5,9,60,61] (λk=>[(62,al .i64 (k:Nat))]) (λk=>WS l ops ps (bS l ((es.take k).map (·.2)) (H,T,c+1))) (λk=>es.length-k) 0 (WG _) ?_ (λk hk=>?_)
   .refine View.o1 4 [0,1,2,3] [] (vwE l ops ps H T c 4 hcT [])
   have hk:k<=es.length:=hk;have hWk:WI l.length (bS l ((es.take k).map (·.2)) (H,T,c+1)):=Rh.bS
   refine am (λdK=>?_) (λdK=>?_)
   .have eJ:k<es.length:=by have h:(k:Int)<((es.map bP).length:Int):=dK;rw[O9]at h;omega
    have e:bS l ((es.take (k+1)).map (·.2)) (H,T,c+1)=bS l [es[k].2] (bS l ((es.take k).map (·.2)) (H,T,c+1)):=by rw[nH (wy eJ),abM,dj];rfl
    refine af (ti eJ) ?_;refine mw (HZ l ops ps hl es[k].2 _ _ (abJ hWk.le (abJ hWk.len hl))) [.var [.ai (.val (.string es[k].1)),.ai (.val (.int .i64 es[k].2))]] rfl (λe1=>?_) (λH' T' e1=>?_)
    .refine⟨k+1,eJ,(show es.length-(k+1)<es.length-k by omega),View.o2 5 [0,1,2,3] [] (show bW _ _ _ 0 (WS l ops ps (bS l ((es.take (k+1)).map (·.2)) (H,T,c+1)))from by rw[e.trans e1];exact tP l ops ps _ _ 5 [_])⟩
    .refine⟨k+1,eJ,(show es.length-(k+1)<es.length-k by omega),View.o2 6 [0,1,2,5] [] (show bW _ _ _ 0 (WS l ops ps (bS l ((es.take (k+1)).map (·.2)) (H,T,c+1)))from by rw[e.trans e1];exact Yr l ops ps H' T' _ _ [] 6)⟩
   .have nn:k=es.length:=by have h:¬(k:Int)<((es.map bP).length:Int):=dK;rw[O9]at h;omega
    subst nn;rw[abD]at hWk;rw[abD];obtain⟨⟨H1,T1,c1⟩,M8⟩:∃s1,bS l (es.map (·.2)) (H,T,c+1)=s1:=⟨_,rfl⟩
    rw[M8];have EY:WI l.length (H1,T1,c1):=M8▸hWk;have Fv:T1.length<=4194304:=abJ EY.le (abJ EY.len hl);refine ba (λh4=>?_) (λh4=>?_)
    .have h4:ah=4:=h4;have h5:¬ah=5:=om;refine mw (HZ l ops ps hl aG H1 (T1,c1) Fv) [] rfl (λe1=>?_) (λH' T' e1=>?_)
     .refine ar (λk=>k<=aj.length) [2,5,94,95] (λk=>[(96,al .i64 (k:Nat))]) (λk=>WS l ops ps (bS l (ii ops (aj.take k)) (bS l [aG] (H1,T1,c1)))) (λk=>aj.length-k) 0 (WG _) ?_ (λk hk=>?_)
      .refine View.o1 4 [0,1,2,3] [] (show bW _ _ _ 0 (WS l ops ps (bS l [aG] (H1,T1,c1)))from by rw[e1];exact tP l ops ps H1 (T1,c1) 4 [])
      have hk:k<=aj.length:=hk;have FD:WI l.length (bS l (ii ops (aj.take k)) (bS l [aG] (H1,T1,c1))):=(show WI l.length (bS l [aG] (H1,T1,c1))from EY.bS).bS;refine am (λdK=>?_) (λdK=>?_)
      .have eJ:k<aj.length:=by have h:(k:Int)<((aj.map cy.enc).length:Int):=dK;rw[O9]at h;omega
       have ht:=p6 (ops:=ops) eJ;have EZ:cm (aj.map cy.enc) (k:Nat)=some (aj[k].enc):=by rw[aU,Qu,wy eJ];rfl
       generalize aj[k]=ms at ht EZ;obtain⟨mdata,has,b8,rts⟩:=ms;refine af (x:=[.sl 1 mdata,.val (.bool has),.val (.int .i64 b8),.val (.int .i64 rts)]) EZ ?_;cases has with
       |true=>
        have e:bS l (ii ops (aj.take (k+1))) (bS l [aG] (H1,T1,c1))=bS l [dO ops b8] (bS l (ii ops (aj.take k)) (bS l [aG] (H1,T1,c1))):=by rw[ht,dj];rfl
        refine mw (sa l ops ps hl b8 rts _ _ (abJ FD.le (abJ FD.len hl))) [.var [.ai (.sl 1 mdata),.ai (.val (.bool true)),.ai (.val (.int .i64 b8)),.ai (.val (.int .i64 rts))]] rfl (λe1=>?_) (λH' T' e1=>?_)
        .refine⟨k+1,eJ,(show aj.length-(k+1)<aj.length-k by omega),View.o2 5 [0,1,2,3] [] (show bW _ _ _ 0 (WS l ops ps (bS l (ii ops (aj.take (k+1))) (bS l [aG] (H1,T1,c1))))from by rw[e.trans e1];exact tP l ops ps _ _ 5 [_])⟩
        .refine⟨k+1,eJ,(show aj.length-(k+1)<aj.length-k by omega),View.o2 6 [0,1,2,5] [] (show bW _ _ _ 0 (WS l ops ps (bS l (ii ops (aj.take (k+1))) (bS l [aG] (H1,T1,c1))))from by rw[e.trans e1];exact Yr l ops ps H' T' _ _ [] 6)⟩
       |false=>
        have e:bS l (ii ops (aj.take (k+1))) (bS l [aG] (H1,T1,c1))=bS l (ii ops (aj.take k)) (bS l [aG] (H1,T1,c1)):=by rw[ht,dj];rfl
        refine⟨k+1,eJ,(show aj.length-(k+1)<aj.length-k by omega),View.o2 5 [0,1,2,3] [] (show bW _ _ _ 0 (WS l ops ps (bS l (ii ops (aj.take (k+1))) (bS l [aG] (H1,T1,c1))))from by rw[e];exact tP l ops ps _ _ 5 [_])⟩
      .have nn:k=aj.length:=by have h:¬(k:Int)<((aj.map cy.enc).length:Int):=dK;rw[O9]at h;omega
       subst nn;rw[abD];have e9:bS l (es.map (·.2)++([aG]++ii ops aj)) (H,T,c+1)=bS l (ii ops aj) (bS l [aG] (H1,T1,c1)):=by rw[dj,dj,M8]
       have f9:=gu [aG] (by simp[h4,h5])
       rw[e9]at f9;refine⟨bS l (ii ops aj) (bS l [aG] (H1,T1,c1)),f9.1,f9.2,View.o1 4 [0,1,2,3] [] (tP l ops ps _ _ 4 [])⟩
     .refine ar (λk=>k<=aj.length) [2,5,94,95] (λk=>[(96,al .i64 (k:Nat))]) (λk=>WS l ops ps (bS l (ii ops (aj.take k)) (bS l [aG] (H1,T1,c1)))) (λk=>aj.length-k) 0 (WG _) ?_ (λk hk=>?_)
      .refine View.o1 5 [0,1,2,4] [] (show bW _ _ _ 0 (WS l ops ps (bS l [aG] (H1,T1,c1)))from by rw[e1];exact vwC l ops ps H' T' _ [] 5)
      have hk:k<=aj.length:=hk;have FD:WI l.length (bS l (ii ops (aj.take k)) (bS l [aG] (H1,T1,c1))):=(show WI l.length (bS l [aG] (H1,T1,c1))from EY.bS).bS;refine am (λdK=>?_) (λdK=>?_)
      .have eJ:k<aj.length:=by have h:(k:Int)<((aj.map cy.enc).length:Int):=dK;rw[O9]at h;omega
       have ht:=p6 (ops:=ops) eJ;have EZ:cm (aj.map cy.enc) (k:Nat)=some (aj[k].enc):=by rw[aU,Qu,wy eJ];rfl
       generalize aj[k]=ms at ht EZ;obtain⟨mdata,has,b8,rts⟩:=ms;refine af (x:=[.sl 1 mdata,.val (.bool has),.val (.int .i64 b8),.val (.int .i64 rts)]) EZ ?_;cases has with
       |true=>
        have e:bS l (ii ops (aj.take (k+1))) (bS l [aG] (H1,T1,c1))=bS l [dO ops b8] (bS l (ii ops (aj.take k)) (bS l [aG] (H1,T1,c1))):=by rw[ht,dj];rfl
        refine mw (sa l ops ps hl b8 rts _ _ (abJ FD.le (abJ FD.len hl))) [.var [.ai (.sl 1 mdata),.ai (.val (.bool true)),.ai (.val (.int .i64 b8)),.ai (.val (.int .i64 rts))]] rfl (λe1=>?_) (λH' T' e1=>?_)
        .refine⟨k+1,eJ,(show aj.length-(k+1)<aj.length-k by omega),View.o2 5 [0,1,2,3] [] (show bW _ _ _ 0 (WS l ops ps (bS l (ii ops (aj.take (k+1))) (bS l [aG] (H1,T1,c1))))from by rw[e.trans e1];exact tP l ops ps _ _ 5 [_])⟩
        .refine⟨k+1,eJ,(show aj.length-(k+1)<aj.length-k by omega),View.o2 6 [0,1,2,5] [] (show bW _ _ _ 0 (WS l ops ps (bS l (ii ops (aj.take (k+1))) (bS l [aG] (H1,T1,c1))))from by rw[e.trans e1];exact Yr l ops ps H' T' _ _ [] 6)⟩
       |false=>
        have e:bS l (ii ops (aj.take (k+1))) (bS l [aG] (H1,T1,c1))=bS l (ii ops (aj.take k)) (bS l [aG] (H1,T1,c1)):=by rw[ht,dj];rfl
        refine⟨k+1,eJ,(show aj.length-(k+1)<aj.length-k by omega),View.o2 5 [0,1,2,3] [] (show bW _ _ _ 0 (WS l ops ps (bS l (ii ops (aj.take (k+1))) (bS l [aG] (H1,T1,c1))))from by rw[e];exact tP l ops ps _ _ 5 [_])⟩
      .have nn:k=aj.length:=by have h:¬(k:Int)<((aj.map cy.enc).length:Int):=dK;rw[O9]at h;omega
       subst nn;rw[abD];have e9:bS l (es.map (·.2)++([aG]++ii ops aj)) (H,T,c+1)=bS l (ii ops aj) (bS l [aG] (H1,T1,c1)):=by rw[dj,dj,M8]
       have f9:=gu [aG] (by simp[h4,h5])
       rw[e9]at f9;refine⟨bS l (ii ops aj) (bS l [aG] (H1,T1,c1)),f9.1,f9.2,View.o1 4 [0,1,2,3] [] (tP l ops ps _ _ 4 [])⟩
    .have h4:¬ah=4:=h4;refine ba (λh5=>?_) (λh5=>?_)
     .have h5:ah=5:=h5;refine mw (JU l ops ps hl i3 aQ H1 (T1,c1) EY) [] rfl (λe1=>?_) (λH' T' e1=>?_)
      .refine ar (λk=>k<=aj.length) [2,5,94,95] (λk=>[(96,al .i64 (k:Nat))]) (λk=>WS l ops ps (bS l (ii ops (aj.take k)) (bS l (gd ops ps aQ) (H1,T1,c1)))) (λk=>aj.length-k) 0 (WG _) ?_ (λk hk=>?_)
       .refine View.o1 4 [0,1,2,3] [] (show bW _ _ _ 0 (WS l ops ps (bS l (gd ops ps aQ) (H1,T1,c1)))from by rw[e1];exact tP l ops ps H1 (T1,c1) 4 [])
       have hk:k<=aj.length:=hk;have FD:WI l.length (bS l (ii ops (aj.take k)) (bS l (gd ops ps aQ) (H1,T1,c1))):=(show WI l.length (bS l (gd ops ps aQ) (H1,T1,c1))from EY.bS).bS;refine am (λdK=>?_) (λdK=>?_)
       .have eJ:k<aj.length:=by have h:(k:Int)<((aj.map cy.enc).length:Int):=dK;rw[O9]at h;omega
        have ht:=p6 (ops:=ops) eJ;have EZ:cm (aj.map cy.enc) (k:Nat)=some (aj[k].enc):=by rw[aU,Qu,wy eJ];rfl
        generalize aj[k]=ms at ht EZ;obtain⟨mdata,has,b8,rts⟩:=ms;refine af (x:=[.sl 1 mdata,.val (.bool has),.val (.int .i64 b8),.val (.int .i64 rts)]) EZ ?_;cases has with
        |true=>
         have e:bS l (ii ops (aj.take (k+1))) (bS l (gd ops ps aQ) (H1,T1,c1))=bS l [dO ops b8] (bS l (ii ops (aj.take k)) (bS l (gd ops ps aQ) (H1,T1,c1))):=by rw[ht,dj];rfl
         refine mw (sa l ops ps hl b8 rts _ _ (abJ FD.le (abJ FD.len hl))) [.var [.ai (.sl 1 mdata),.ai (.val (.bool true)),.ai (.val (.int .i64 b8)),.ai (.val (.int .i64 rts))]] rfl (λe1=>?_) (λH' T' e1=>?_)
         .refine⟨k+1,eJ,(show aj.length-(k+1)<aj.length-k by omega),View.o2 5 [0,1,2,3] [] (show bW _ _ _ 0 (WS l ops ps (bS l (ii ops (aj.take (k+1))) (bS l (gd ops ps aQ) (H1,T1,c1))))from by rw[e.trans e1];exact tP l ops ps _ _ 5 [_])⟩
         .refine⟨k+1,eJ,(show aj.length-(k+1)<aj.length-k by omega),View.o2 6 [0,1,2,5] [] (show bW _ _ _ 0 (WS l ops ps (bS l (ii ops (aj.take (k+1))) (bS l (gd ops ps aQ) (H1,T1,c1))))from by rw[e.trans e1];exact Yr l ops ps H' T' _ _ [] 6)⟩
        |false=>
         have e:bS l (ii ops (aj.take (k+1))) (bS l (gd ops ps aQ) (H1,T1,c1))=bS l (ii ops (aj.take k)) (bS l (gd ops ps aQ) (H1,T1,c1)):=by rw[ht,dj];rfl
         refine⟨k+1,eJ,(show aj.length-(k+1)<aj.length-k by omega),View.o2 5 [0,1,2,3] [] (show bW _ _ _ 0 (WS l ops ps (bS l (ii ops (aj.take (k+1))) (bS l (gd ops ps aQ) (H1,T1,c1))))from by rw[e];exact tP l ops ps _ _ 5 [_])⟩
       .have nn:k=aj.length:=by have h:¬(k:Int)<((aj.map cy.enc).length:Int):=dK;rw[O9]at h;omega
        subst nn;rw[abD];have e9:bS l (es.map (·.2)++((gd ops ps aQ)++ii ops aj)) (H,T,c+1)=bS l (ii ops aj) (bS l (gd ops ps aQ) (H1,T1,c1)):=by rw[dj,dj,M8]
        have f9:=gu (gd ops ps aQ) (by simp[h4,h5])
        rw[e9]at f9;refine⟨bS l (ii ops aj) (bS l (gd ops ps aQ) (H1,T1,c1)),f9.1,f9.2,View.o1 4 [0,1,2,3] [] (tP l ops ps _ _ 4 [])⟩
      .refine ar (λk=>k<=aj.length) [2,5,94,95] (λk=>[(96,al .i64 (k:Nat))]) (λk=>WS l ops ps (bS l (ii ops (aj.take k)) (bS l (gd ops ps aQ) (H1,T1,c1)))) (λk=>aj.length-k) 0 (WG _) ?_ (λk hk=>?_)
       .refine View.o1 5 [0,1,2,4] [] (show bW _ _ _ 0 (WS l ops ps (bS l (gd ops ps aQ) (H1,T1,c1)))from by rw[e1];exact vwC l ops ps H' T' _ [] 5)
       have hk:k<=aj.length:=hk;have FD:WI l.length (bS l (ii ops (aj.take k)) (bS l (gd ops ps aQ) (H1,T1,c1))):=(show WI l.length (bS l (gd ops ps aQ) (H1,T1,c1))from EY.bS).bS;refine am (λdK=>?_) (λdK=>?_)
       .have eJ:k<aj.length:=by have h:(k:Int)<((aj.map cy.enc).length:Int):=dK;rw[O9]at h;omega
        have ht:=p6 (ops:=ops) eJ;have EZ:cm (aj.map cy.enc) (k:Nat)=some (aj[k].enc):=by rw[aU,Qu,wy eJ];rfl
        generalize aj[k]=ms at ht EZ;obtain⟨mdata,has,b8,rts⟩:=ms;refine af (x:=[.sl 1 mdata,.val (.bool has),.val (.int .i64 b8),.val (.int .i64 rts)]) EZ ?_;cases has with
        |true=>
         have e:bS l (ii ops (aj.take (k+1))) (bS l (gd ops ps aQ) (H1,T1,c1))=bS l [dO ops b8] (bS l (ii ops (aj.take k)) (bS l (gd ops ps aQ) (H1,T1,c1))):=by rw[ht,dj];rfl
         refine mw (sa l ops ps hl b8 rts _ _ (abJ FD.le (abJ FD.len hl))) [.var [.ai (.sl 1 mdata),.ai (.val (.bool true)),.ai (.val (.int .i64 b8)),.ai (.val (.int .i64 rts))]] rfl (λe1=>?_) (λH' T' e1=>?_)
         .refine⟨k+1,eJ,(show aj.length-(k+1)<aj.length-k by omega),View.o2 5 [0,1,2,3] [] (show bW _ _ _ 0 (WS l ops ps (bS l (ii ops (aj.take (k+1))) (bS l (gd ops ps aQ) (H1,T1,c1))))from by rw[e.trans e1];exact tP l ops ps _ _ 5 [_])⟩
         .refine⟨k+1,eJ,(show aj.length-(k+1)<aj.length-k by omega),View.o2 6 [0,1,2,5] [] (show bW _ _ _ 0 (WS l ops ps (bS l (ii ops (aj.take (k+1))) (bS l (gd ops ps aQ) (H1,T1,c1))))from by rw[e.trans e1];exact Yr l ops ps H' T' _ _ [] 6)⟩
        |false=>
         have e:bS l (ii ops (aj.take (k+1))) (bS l (gd ops ps aQ) (H1,T1,c1))=bS l (ii ops (aj.take k)) (bS l (gd ops ps aQ) (H1,T1,c1)):=by rw[ht,dj];rfl
         refine⟨k+1,eJ,(show aj.length-(k+1)<aj.length-k by omega),View.o2 5 [0,1,2,3] [] (show bW _ _ _ 0 (WS l ops ps (bS l (ii ops (aj.take (k+1))) (bS l (gd ops ps aQ) (H1,T1,c1))))from by rw[e];exact tP l ops ps _ _ 5 [_])⟩
       .have nn:k=aj.length:=by have h:¬(k:Int)<((aj.map cy.enc).length:Int):=dK;rw[O9]at h;omega
        subst nn;rw[abD];have e9:bS l (es.map (·.2)++((gd ops ps aQ)++ii ops aj)) (H,T,c+1)=bS l (ii ops aj) (bS l (gd ops ps aQ) (H1,T1,c1)):=by rw[dj,dj,M8]
        have f9:=gu (gd ops ps aQ) (by simp[h4,h5])
        rw[e9]at f9;refine⟨bS l (ii ops aj) (bS l (gd ops ps aQ) (H1,T1,c1)),f9.1,f9.2,View.o1 4 [0,1,2,3] [] (tP l ops ps _ _ 4 [])⟩
     .have h5:¬ah=5:=h5;refine ar (λk=>k<=aj.length) [2,5,94,95] (λk=>[(96,al .i64 (k:Nat))]) (λk=>WS l ops ps (bS l (ii ops (aj.take k)) (bS l ([]:List Int) (H1,T1,c1)))) (λk=>aj.length-k) 0 (WG _) ?_ (λk hk=>?_)
      .refine View.o1 4 [0,1,2,3] [] (tP l ops ps H1 (T1,c1) 4 [])
      have hk:k<=aj.length:=hk;have FD:WI l.length (bS l (ii ops (aj.take k)) (bS l ([]:List Int) (H1,T1,c1))):=(show WI l.length (bS l ([]:List Int) (H1,T1,c1))from EY.bS).bS;refine am (λdK=>?_) (λdK=>?_)
      .have eJ:k<aj.length:=by have h:(k:Int)<((aj.map cy.enc).length:Int):=dK;rw[O9]at h;omega
       have ht:=p6 (ops:=ops) eJ;have EZ:cm (aj.map cy.enc) (k:Nat)=some (aj[k].enc):=by rw[aU,Qu,wy eJ];rfl
       generalize aj[k]=ms at ht EZ;obtain⟨mdata,has,b8,rts⟩:=ms;refine af (x:=[.sl 1 mdata,.val (.bool has),.val (.int .i64 b8),.val (.int .i64 rts)]) EZ ?_;cases has with
       |true=>
        have e:bS l (ii ops (aj.take (k+1))) (bS l ([]:List Int) (H1,T1,c1))=bS l [dO ops b8] (bS l (ii ops (aj.take k)) (bS l ([]:List Int) (H1,T1,c1))):=by rw[ht,dj];rfl
        refine mw (sa l ops ps hl b8 rts _ _ (abJ FD.le (abJ FD.len hl))) [.var [.ai (.sl 1 mdata),.ai (.val (.bool true)),.ai (.val (.int .i64 b8)),.ai (.val (.int .i64 rts))]] rfl (λe1=>?_) (λH' T' e1=>?_)
        .refine⟨k+1,eJ,(show aj.length-(k+1)<aj.length-k by omega),View.o2 5 [0,1,2,3] [] (show bW _ _ _ 0 (WS l ops ps (bS l (ii ops (aj.take (k+1))) (bS l ([]:List Int) (H1,T1,c1))))from by rw[e.trans e1];exact tP l ops ps _ _ 5 [_])⟩
        .refine⟨k+1,eJ,(show aj.length-(k+1)<aj.length-k by omega),View.o2 6 [0,1,2,5] [] (show bW _ _ _ 0 (WS l ops ps (bS l (ii ops (aj.take (k+1))) (bS l ([]:List Int) (H1,T1,c1))))from by rw[e.trans e1];exact Yr l ops ps H' T' _ _ [] 6)⟩
       |false=>
        have e:bS l (ii ops (aj.take (k+1))) (bS l ([]:List Int) (H1,T1,c1))=bS l (ii ops (aj.take k)) (bS l ([]:List Int) (H1,T1,c1)):=by rw[ht,dj];rfl
        refine⟨k+1,eJ,(show aj.length-(k+1)<aj.length-k by omega),View.o2 5 [0,1,2,3] [] (show bW _ _ _ 0 (WS l ops ps (bS l (ii ops (aj.take (k+1))) (bS l ([]:List Int) (H1,T1,c1))))from by rw[e];exact tP l ops ps _ _ 5 [_])⟩
      .have nn:k=aj.length:=by have h:¬(k:Int)<((aj.map cy.enc).length:Int):=dK;rw[O9]at h;omega
       subst nn;rw[abD];have e9:bS l (es.map (·.2)++(([]:List Int)++ii ops aj)) (H,T,c+1)=bS l (ii ops aj) (bS l ([]:List Int) (H1,T1,c1)):=by rw[dj,dj,M8]
       have f9:=gu ([]:List Int) (by simp[h4,h5])
       rw[e9]at f9;refine⟨bS l (ii ops aj) (bS l ([]:List Int) (H1,T1,c1)),f9.1,f9.2,View.o1 4 [0,1,2,3] [] (tP l ops ps _ _ 4 [])⟩
  .have h:¬((lenOf (aa (T.map nI)).length c none:Nat):Int)>0:=h;rw[ix]at h;have hF:=hB.end (show T.drop c=[]from ac2 om);have hF:zZ l ops ps pl H:=hF;have Vj:(aa ((nl l.length H).map bE)).length=l.length:=by rw[aJ,O9,mr]
   refine ar (λi=>i<=l.length) [110,111] (λi=>[(112,al .i64 (i:Nat)),(14,.rv (.one (.row 4 1 0 none)))]) (λi=>[.aE,kV l.length H,.aE,.aE,.row 1 (aa ((my l.length H i).map nI))]) (λi=>l.length-i) 0 (WG _) ?_ (λi hi=>?_)
   .refine View.trans (View.bt 14 1 4 rfl rfl rfl) (View.o1 5 [0,1,2,3,4] [] ?_)
    .exact .aE (.pr rfl rfl rfl (.aE (.aE (.pn rfl rfl rfl))))
   have hi:i<=l.length:=hi;refine am (λh=>?_) (λh=>?_)
   .have ax:i<l.length:=by have h:(i:Int)<((aa ((nl l.length H).map bE)).length:Int):=h;rw[Vj]at h;omega
    have Tn:i<(nl l.length H).length:=by rw[mr];exact ax
    have vK:(nl l.length H)[i]=decide (i∈H):=by have:=wR (H:=H) ax;rw[wy Tn]at this;exact ac3 this
    have MW:=tQ l.length H i;have hs:=Mq l.length H i;refine af (tm Tn) ?_;refine af (oL Tn) ?_;rw[vK];by_cases hm:i∈H
    .rw[decide_eq_true hm];rw[if_pos hm]at hs;refine⟨by have e:=aJ ((my l.length H i).map nI);rw[O9]at e;simp only[bA,aa2,abO];omega,?_⟩
     refine⟨i+1,ax,(show l.length-(i+1)<l.length-i by omega),View.o2 7 [0,1,2,3,6] [] ?_⟩
     .exact .aE (.pr rfl rfl rfl (.aE (.aE (.pt rfl rfl (.bn (by rw[hs];simp[bA,aa,nI])) (.nil _)))))
    .rw[decide_eq_false hm];rw[if_neg hm,ab9]at hs;refine⟨i+1,ax,(show l.length-(i+1)<l.length-i by omega),View.o2 5 [0,1,2,3,4] [] ?_⟩
     .exact .aE (.pr rfl rfl rfl (.aE (.aE (.pt rfl rfl (.bn (by rw[hs])) (.nil _)))))
   .have iw:i=l.length:=by have h:¬(i:Int)<((aa ((nl l.length H).map bE)).length:Int):=h;rw[Vj]at h;omega
    subst iw;exact⟨H,hF,_,rfl,rfl⟩
end Fe
def c11:LF:=Cq prog f11 [] []
def c16:LF:=Cq prog f16 [] []
def c48:LF:=Cq prog Tryz.f48 [] []
def c92:LF:=Cq prog f92 [] []
namespace Fe
theorem l11:bs prog f11=some c11:=by kernel_rfl
theorem l48:bs prog Tryz.f48=some c48:=by kernel_rfl
theorem l92:bs prog f92=some c92:=by kernel_rfl
theorem l16:bs prog f16=some c16:=by kernel_rfl
def nZ(L:List Nat):List Int:=L.map λ(k:Nat)=>((k:Nat):Int)
theorem tR(L:List Nat):Bi L=iY (nZ L):=by unfold Bi iY nZ;rw[acf];rfl
structure FSz(l:List Obj)(ops:List aT)(ps:List aL):Prop where
 hl:l.length<=4194304
 l4:∀o,o∈l->∃es:List NE,o.ag=es.map bP
 dQ:∀o,o∈l->o.ag.length<=4194304/\o.aj.length<=4194304
 i3:∀p,p∈ps->p.an.length<=4194304
theorem qM(l:List Obj)(ops:List aT)(ps:List aL)(pl:List Int)(hz:FSz l ops ps)(eF:pl.length<=4194304){m:Mem}{K:CV->Mem->Prop}(h:∀L,zZ l ops ps pl L->K (Bi (my l.length L l.length)) m):ap prog 10 [cA l ops ps,iY pl] m K:=by
 refine aR (K0:=λr m=>∃L,zZ l ops ps pl L/\Xl m r (my l.length L l.length)) (aP func10 l10 (v8 l ops ps pl hz.hl hz.l4 hz.dQ eF hz.i3)) (by simp[cA,iY,cT,de,dZ,CV.cW,CC.cW,RV.cW]) λr m1 hr=>?_
 obtain⟨L,hL,id,rfl,hm⟩:=hr;exact⟨_,.rv (.one (d7.da hm 0 none)),h L hL⟩
theorem E0(pl:List Int)(eF:pl.length<=4194304)(z:Int):body prog c11 [iY pl,al .i64 z] [] (λr m=>r=aq (decide (z∈pl))):=by
 refine ar (λk=>k<=pl.length/\∀(j:Nat)x,j<k->pl[j]? =some x->x≠z) [1,7,8] (λk=>[(9,al .i64 (k:Nat))]) (λ_=>[]) (λk=>pl.length-k) 0 ⟨WG _,λj e h=>absurd h (abE j)⟩ ?_ (λk hk=>?_)
 .refine View.o1 0 [] [] (.nil _)
 obtain⟨hk,AR⟩:=hk;have hk:k<=pl.length:=hk;refine am (λh=>?_) (λh=>?_)
 .have ax:k<pl.length:=by have h:(k:Int)<((pl.map iE).length:Int):=h;rw[O9]at h;omega
  refine af (CN ax) ?_;refine ba (λhe=>?_) (λhe=>?_)
  .show aq _=aq _;rw[decide_eq_true (show z∈pl from he▸aaR ax)]
  .refine⟨k+1,⟨ax,λj e hj rJ=>?_⟩,(show pl.length-(k+1)<pl.length-k by omega),View.o 0 [] [] ?_ (.nil _)⟩
   .rcases aax j k with h3|h3
    .exact AR j e h3 rJ
    .have:j=k:=om;subst this;rw[wy ax]at rJ;cases rJ;exact he
   repeat(first|exact .nil|refine .aH ?_|refine .put (.aN (br om).symm) ?_|refine .eq rfl ?_)
 .have ef:¬k<pl.length:=by have h:¬(k:Int)<((pl.map iE).length:Int):=h;rw[O9]at h;omega
  show aq _=aq _;rw[decide_eq_false (λhm=>by
   obtain⟨j,hj⟩:=aak hm;exact AR j z (by have:=(Lw.1 hj).1;omega) hj rfl)]
theorem Xm(pl:List Int)(eF:pl.length<=4194304)(z:Int){m:Mem}{K:CV->Mem->Prop}(h:K (aq (decide (z∈pl))) m):ap prog 11 [iY pl,al .i64 z] m K:=
 bu func11 l11 rfl (aav rfl) (E0 pl eF z) rfl rfl h
theorem rR(pl:List Int)(eF:pl.length<=4194304)(z:Int):body prog c92 [iY pl,al .i64 z] [] (λr m=>∃n,r=al .i64 n/\(n>=0↔z∈pl)):=by
 refine ar (λk=>k<=pl.length/\∀(j:Nat)x,j<k->pl[j]? =some x->x≠z) [0,1,7] (λk=>[(8,al .i64 (k:Nat))]) (λ_=>[]) (λk=>pl.length-k) 0 ⟨WG _,λj e h=>absurd h (abE j)⟩ ?_ (λk hk=>?_)
 .refine View.o1 0 [] [] (.nil _)
 obtain⟨hk,AR⟩:=hk;have hk:k<=pl.length:=hk;refine am (λh=>?_) (λh=>?_)
 .have ax:k<pl.length:=by have h:(k:Int)<((pl.map iE).length:Int):=h;rw[O9]at h;omega
  refine af (CN ax) ?_;refine ba (λhe=>?_) (λhe=>?_)
  .exact⟨_,rfl,λ_=>he▸aaR ax,λ_=>by show(k:Int)>=0;omega⟩
  .refine⟨k+1,⟨ax,λj e hj rJ=>?_⟩,(show pl.length-(k+1)<pl.length-k by omega),View.o 0 [] [] ?_ (.nil _)⟩
   .rcases aax j k with h3|h3
    .exact AR j e h3 rJ
    .have:j=k:=om;subst this;rw[wy ax]at rJ;cases rJ;exact λe=>he e.symm
   repeat(first|exact .nil|refine .aH ?_|refine .put (.aN (br om).symm) ?_|refine .eq rfl ?_)
 .have ef:¬k<pl.length:=by have h:¬(k:Int)<((pl.map iE).length:Int):=h;rw[O9]at h;omega
  refine⟨_,rfl,λh=>absurd h (by decide),λhm=>?_⟩
  obtain⟨j,hj⟩:=aak hm;exact absurd rfl (AR j z (by have:=(Lw.1 hj).1;omega) hj)
theorem ym(pl:List Int)(eF:pl.length<=4194304)(z:Int){m:Mem}{K:CV->Mem->Prop}(h:∀n:Int,(n>=0↔z∈pl)->K (al .i64 n) m):ap prog 92 [iY pl,al .i64 z] m K:=by
 refine aR (K0:=λr _=>∃n,r=al .i64 n/\(n>=0↔z∈pl)) (aP func92 l92 (rR pl eF z)) (by simp[al,iY,CV.cW,CC.cW,RV.cW]) λr m1 hr=>?_
 obtain⟨n,rfl,hn⟩:=hr;exact⟨_,cH.self rfl,h n hn⟩
theorem Mr(pl:List Int)(eF:pl.length<=4194304)(z:Int):body prog c48 [iY pl,al .i64 z] [] (λr m=>r=aq (decide (z∈pl))):=by
 refine ym pl eF z λn hn=>?_
 show aq (decide (n>=0))=aq (decide (z∈pl));rw[decide_eq_decide.2 hn]
theorem JV(pl:List Int)(eF:pl.length<=4194304)(z:Int){m:Mem}{K:CV->Mem->Prop}(h:K (aq (decide (z∈pl))) m):ap prog 48 [iY pl,al .i64 z] m K:=
 bu func48 l48 rfl (aav rfl) (Mr pl eF z) rfl rfl h
def Rn(pl:List Int)(i:Nat):List Nat:=(List.range i).filter λp=>decide (¬(p:Int)∈pl)
theorem Qj(pl:List Int)(i:Nat):Rn pl (i+1)=Rn pl i++(if(i:Int)∈pl then []else [i]):=by
 unfold Rn;rw[ads,acx];by_cases h:(i:Int)∈pl<;>simp[h]
theorem JW(pl:List Int)(i:Nat):(Rn pl i).length<=i:=abJ (acn _ _) aD
def H3(ps:List aL)(pl:List Int)(i:Nat):Prop:=∀(j:Nat)pr,j<i->ps[j]? =some pr->(j:Int)∈pl->pr.aF=true/\pr.fenced=true
theorem H3.succ{ps:List aL}{pl:List Int}{i:Nat}{pr:aL}(hp:ps[i]? =some pr):H3 ps pl (i+1)↔H3 ps pl i/\((i:Int)∈pl->pr.aF=true/\pr.fenced=true):=by
 constructor
 .exact λh=>⟨λj q hj hq hm=>h j q om hq hm,λhm=>h i pr om hp hm⟩
 .rintro⟨h1,h2⟩ j q hj hq hm;rcases aax j i with h|h
  .exact h1 j q h hq hm
  .have:j=i:=om;subst this;rw[hp]at hq;cases hq;exact h2 hm
def Xn(l:List Obj)(ops:List aT)(ps:List aL)(pl:List Int):Prop:=H3 ps pl ps.length/\∀L L',zZ l ops ps pl L->zZ l ops ps (nZ (Rn pl ps.length)) L'->∀n,n∈L'->n∉L
theorem p7{N:Nat}{L:List Nat}(h:∀n,n∈L->n<N)(n:Nat):n∈my N L N↔n∈L:=by unfold my;simp only[acD,List.mem_range,decide_eq_true_eq];exact⟨λh=>h.2,λhn=>⟨h n hn,hn⟩⟩
theorem zZ.lt{l:List Obj}{ops:List aT}{ps:List aL}{pl:List Int}{L:List Nat}(h:zZ l ops ps pl L)(n:Nat)(hn:n∈L):n<l.length:=by obtain⟨_,o,ho,_⟩:=h.val n hn;exact(Lw.1 ho).1
theorem H4{L:List Nat}{n:Nat}:(n:Int)∈nZ L↔n∈L:=by unfold nZ;rw[abl];exact⟨λ⟨x,hx,e⟩=>(show x=n by omega)▸hx,λh=>⟨n,h,rfl⟩⟩
theorem E3(l:List Obj)(ops:List aT)(ps:List aL)(pl:List Int)(hz:FSz l ops ps)(SQ:ps.length<=4194304)(eF:pl.length<=4194304):
  body prog c16 [cA l ops ps,iY pl] [] (λr m=>∃b,r=aq b/\(b=true↔Xn l ops ps pl)):=by
 refine ar (λi=>i<=ps.length/\H3 ps pl i) [1,2,13,14] (λi=>[(15,al .i64 (i:Nat)),(5,.rv (.one (.row 1 1 0 none)))]) (λi=>[kB l ops ps,.row 1 (aa ((Rn pl i).map nI))]) (λi=>ps.length-i) 0 ⟨WG _,λj pr hj=>absurd hj (abE j)⟩ ?_ (λi hi=>?_)
 .refine View.trans (View.bt 5 1 1 rfl rfl rfl) (View.o1 2 [0,1] [] ?_)
  .exact .au
 obtain⟨hi,hF⟩:=hi;have hi:i<=ps.length:=hi;refine am (λh=>?_) (λh=>?_)
 .have pG:i<ps.length:=by have h:(i:Int)<((ps.map aL.enc).length:Int):=h;rw[O9]at h;omega
  have nS:=wy pG;have hg:cm (ps.map aL.enc) (i:Nat)=some (ps[i].enc):=by rw[aU,Qu,nS];rfl
  generalize ps[i]=pr at nS hg;have hfs:=H3.succ (pl:=pl) nS;obtain⟨aF,fenced,code,an⟩:=pr;have Q2:=Qj pl i;have i7:=JW pl i;have bad:¬H3 ps pl (i+1)->∃b,aq false=aq b/\(b=true↔Xn l ops ps pl):=λhn=>⟨false,rfl,(λh=>by cases h),λh=>absurd (λj q hj hq hm=>h.1 j q om hq hm) hn⟩
  refine af (x:=[.val (.bool aF),.val (.bool fenced),.val (.int .i64 code),gL an]) hg ?_;refine JV pl eF (i:Nat) ?_;by_cases hm:(i:Int)∈pl
  .rw[decide_eq_true hm];rw[if_pos hm,ab9]at Q2;cases aF with
   |false=>exact bad λh=>by have:=((hfs.1 h).2 hm).1;cases this
   |true=>
    cases fenced with
    |false=>exact bad λh=>by have:=((hfs.1 h).2 hm).2;cases this
    |true=>
     refine⟨i+1,⟨pG,hfs.2 ⟨hF,λ_=>⟨rfl,rfl⟩⟩⟩,(show ps.length-(i+1)<ps.length-i by omega),View.o2 3 [0,1] [] ?_⟩
     .exact .pt rfl rfl (.eq rfl (by simp[kB])) (.pt rfl rfl (.bn (by rw[Q2])) (.nil _))
  .rw[decide_eq_false hm];rw[if_neg hm]at Q2;refine⟨by have e:=aJ ((Rn pl i).map nI);rw[O9]at e;simp only[bA,aa2,abO];omega,?_⟩
   refine⟨i+1,⟨pG,hfs.2 ⟨hF,λh=>absurd h hm⟩⟩,(show ps.length-(i+1)<ps.length-i by omega),View.o2 5 [0,4] [] ?_⟩
   .exact .pt rfl rfl (.eq rfl (by simp[kB])) (.pt rfl rfl (.bn (by rw[Q2];simp[bA,aa,nI])) (.nil _))
 .have iw:i=ps.length:=by have h:¬(i:Int)<((ps.map aL.enc).length:Int):=h;rw[O9]at h;omega
  subst iw;refine qM l ops ps pl hz eF λL hL=>?_
  have i7:=JW pl ps.length;refine ek (iQ:=[cA l ops ps,Bi (Rn pl ps.length)]) (m':=[.aE,.aE]) (View.o 2 [0,1] [1] (.eq rfl (.put (.rv (.one (.dG (cS.da (Z:=λk=>bc [1] k=true) (ds:=(Rn pl ps.length).map nI) rfl rfl 0 none)))) .nil)) (.aE (.aE (.nil _)))) ?_
  rw[tR];refine qM l ops ps (nZ (Rn pl ps.length)) hz (by unfold nZ;rw[O9];omega) λL' wn=>?_
  have key:Xn l ops ps pl↔∀n,n∈my l.length L' l.length->n∉my l.length L l.length:=by
   constructor
   .intro h n hn hm;exact h.2 L L' hL wn n ((p7 wn.lt n).1 hn) ((p7 hL.lt n).1 hm)
   .intro h;refine⟨hF,λL2 L3 h2 h3 n hn hm=>?_⟩
    exact h n ((p7 wn.lt n).2 ((h3.cO wn n).1 hn)) ((p7 hL.lt n).2 ((h2.cO hL n).1 hm))
  have g1:=tQ l.length L l.length;have g2:=tQ l.length L' l.length;generalize my l.length L l.length=A at key g1;generalize my l.length L' l.length=B at key g2;have hl:=hz.hl;refine ar (λj=>j<=B.length/\∀(k n:Nat),k<j->B[k]? =some n->n∉A) [9,46,47] (λj=>[(48,al .i64 (j:Nat))]) (λ_=>[]) (λj=>B.length-j) 0 ⟨WG _,λk n h=>absurd h (abE k)⟩ ?_ (λj hj=>?_)
  .refine View.o1 2 [] [] (.nil _)
  obtain⟨hj,hjb⟩:=hj;have hj:j<=B.length:=hj;refine am (λh=>?_) (λh=>?_)
  .have bQ:j<B.length:=by have h:(j:Int)<((B.map nI).length:Int):=h;rw[O9]at h;omega
   have hg:cm (B.map nI) (j:Nat)=some [.val (.int .i64 (B[j]:Nat))]:=by rw[aU,Qu,wy bQ];rfl
   refine af hg ?_;rw[show CV.rv (.one (.ai (.sl 1 (A.map nI))))=iY (nZ A)from tR A];refine JV (nZ A) (by unfold nZ;rw[O9];omega) (B[j]:Nat) ?_
   by_cases hm:B[j]∈A
   .rw[decide_eq_true (H4.2 hm)];exact⟨false,rfl,(λh=>by cases h),λh=>absurd hm (key.1 h _ (aaR bQ))⟩
   .rw[decide_eq_false (λh=>hm (H4.1 h))]
    refine⟨j+1,⟨bQ,λk n hk Ez=>?_⟩,(show B.length-(j+1)<B.length-j by omega),View.o 0 [] [] ?_ (.nil _)⟩
    .rcases aax k j with h3|h3
     .exact hjb k n h3 Ez
     .have:k=j:=om;subst this;rw[wy bQ]at Ez;cases Ez;exact hm
    .repeat(first|exact .nil|refine .aH ?_|refine .put (.aN (br om).symm) ?_|refine .put (.aN (tR A).symm) ?_|refine .eq rfl ?_)
  .have ef:¬j<B.length:=by have h:¬(j:Int)<((B.map nI).length:Int):=h;rw[O9]at h;omega
   refine⟨true,rfl,λ_=>key.2 λn hn=>?_,λ_=>rfl⟩
   obtain⟨k,hk⟩:=aak hn;exact hjb k n (by have:=(Lw.1 hk).1;omega) hk
theorem Bj(l:List Obj)(ops:List aT)(ps:List aL)(pl:List Int)(hz:FSz l ops ps)(SQ:ps.length<=4194304)(eF:pl.length<=4194304){m:Mem}{K:CV->Mem->Prop}(h:∀b,(b=true↔Xn l ops ps pl)->K (aq b) m):ap prog 16 [cA l ops ps,iY pl] m K:=by
 refine aR (K0:=λr m=>∃b,r=aq b/\(b=true↔Xn l ops ps pl)) (aP func16 l16 (E3 l ops ps pl hz SQ eF)) (by simp[cA,iY,cT,de,dZ,CV.cW,CC.cW,RV.cW]) λr m1 hr=>?_
 obtain⟨b,rfl,hb⟩:=hr;exact⟨_,cH.self rfl,h b hb⟩
end Fe
namespace Kn
structure aa4(k:Kr)(x:aL):Prop where
 sl:x.an.length<=10
 aE:x.aF=false->x.an=[]
 cap:∀s,s∈x.an->s.has=true->fS k s.b8 s.rts
theorem KI.Bl{k:Kr}(h:KI k){x:aL}(hx:x∈k.ps):aa4 k x:=⟨h.sl x hx,h.aE x hx,h.cap x hx⟩
theorem KI.tS{k:Kr}(h:KI k){oy:List aL}(hl:oy.length<=8)(ef:k.ps.length<=oy.length)(hx:∀x,x∈oy->aa4 k x):KI ⟨k.l,k.ops,oy⟩:=
 ⟨h.ll,h.lo,hl,h.sm,λx h=>(hx x h).sl,λe=>h.ne (aaX (by have:oy=[]:=e;rw[this]at ef;simpa using ef)),λx h=>(hx x h).aE,λx h=>(hx x h).cap,
  h.qu,λo ho h5=>let⟨n,a,b⟩:=h.pr o ho h5;⟨n,a,abL b ef⟩,h.en,h.z,h.pe,h.di,h.P2,h.p5⟩
theorem KI.Qk{k:Kr}(h:KI k){kW:List aT}(hl:kW.length<=60)(hm:∀(n:Nat)o,k.ops[n]? =some o->gJ k.l o.obj->∃o',kW[n]? =some o'/\gJ k.l o'.obj)(ha:∀o,o∈kW->0<=o.di/\o.di<=64):KI ⟨k.l,kW,k.ps⟩:=by
 have eG:∀z r,fS k z r->fS ⟨k.l,kW,k.ps⟩ z r:=λz r hc=>hc.mono hm
 exact⟨h.ll,hl,h.lp,h.sm,h.sl,h.ne,h.aE,λx hx s hs hh=>eG _ _ (h.cap x hx s hs hh),λo ho q hq hh=>eG _ _ (h.qu o ho q hq hh),h.pr,h.en,h.z,h.pe,ha,h.P2,h.p5⟩
theorem KI.ND{k:Kr}(h:KI k)(z:Int){a:Int}(ha:0<=a/\a<=64):KI (rm k z a):=by
 unfold rm;cases ho:k.ops[z.toNat]? with
 |none=>exact h
 |some o=>
  have hz:=(Lw.1 ho).1;refine h.Qk (by rw[abt];exact h.lo) (λn x hx hi=>?_) λx hx=>?_
  .by_cases e:n=z.toNat
   .subst e;rw[ho]at hx;cases hx;exact⟨_,aaj hz,hi⟩
   .exact⟨x,by rw[aam (λx=>e x.symm)];exact hx,hi⟩
  .rcases abF hx with hx|rfl
   .exact h.di x hx
   .exact ha
theorem KI.dI{k:Kr}(h:KI k){p:Nat}{x:aL}(hp:k.ps[p]? =some x)(bO:x.aF=true){l:List dJ}(hl:l.length<=10)(hc:∀s,s∈l->s.has=true->fS k s.b8 s.rts):KI ⟨k.l,k.ops,dI k.ps p l⟩:=by
 have e:Go.Proofs.YtllkfpggoigbaaaGreatDoor.dI k.ps p l=k.ps.set p {x with an:=l}:=by unfold Go.Proofs.YtllkfpggoigbaaaGreatDoor.dI;rw[hp]
 rw[e];refine h.tS (by rw[abt];exact h.lp) (by rw[abt];exact aai _) λy hy=>?_
 rcases abF hy with hy|rfl
 .exact h.Bl hy
 .exact⟨hl,λhd=>(by rw[bO]at hd;cases hd),hc⟩
theorem mz{l:List dJ}{o r:Int}(h:(gx l o r).2.2=0):Tb.fm r=true/\0<=o/\∀s,s∈(gx l o r).1->s∈l\/s=⟨true,o,r⟩:=by
 have Ra:∀s:dJ,Sv (pR s)=s:=λs=>rfl
 unfold gx at h|-;simp only[]at h|-;unfold Tb.jk at h|-;split at h
 .cases h
 .rename_i h1;have hr:Tb.fm r=true:=by
   cases hx:Tb.fm r with
   |true=>rfl
   |false=>exact absurd (.inl hx) h1
  have ho:0<=o:=Int.not_lt.1 λhx=>h1 (.inr hx)
  refine⟨hr,ho,λs hs=>?_⟩
  rw[if_neg h1]at hs;split at hs
  .obtain⟨t,ht,rfl⟩:=abl.1 hs;rcases abF ht with ht|rfl
   .obtain⟨u,hu,rfl⟩:=abl.1 ht;exact .inl hu
   .exact .inr rfl
  .split at hs
   .cases hs
   .obtain⟨t,ht,rfl⟩:=abl.1 hs;rcases abH.1 ht with ht|ht
    .obtain⟨u,hu,rfl⟩:=abl.1 ht;exact .inl hu
    .simp at ht;subst ht;exact .inr rfl
theorem uU{n:Int}:Tb.fm n=true↔0<=n/\n<=4095:=by unfold Tb.fm;rw[aaL,decide_eq_true_eq,decide_eq_true_eq]
theorem KI.iu{k:Kr}(h:KI k){p:Nat}{x:aL}(hp:k.ps[p]? =some x)(bO:x.aF=true){obj rts:Int}(ho:gJ k.l obj)(he:(aI k p obj rts).2.2=0):KI (aI k p obj rts).1:=by
 have Fz:aO k.ps p=x.an:=by rw[aO,hp]
 unfold aI at he|-;split at he
 .cases he
 rename_i h1;rw[if_neg h1];split at he
 .rename_i h2;exact absurd he h2
 rename_i h2;rw[if_neg h2];have h2:(gx (aO k.ps p) (dm k.ops) rts).2.2=0:=aah h2;rw[Fz]at h2|-;obtain⟨c1,c2,c3⟩:=mz h2;have hi:dm k.ops<k.ops.length\/dm k.ops=k.ops.length/\k.ops.length<60:=by
  unfold dm;cases hf:Fy k.ops with
  |none=>exact .inr ⟨rfl,Nat.not_le.1 λa=>h1 ⟨hf,a⟩⟩
  |some i=>exact .inl (Ci hf)
 have N6:∀o,k.ops[dm k.ops]? =some o->o.obj<0:=λo hx=>by
  unfold dm at hx;cases hf:Fy k.ops with
  |none=>
   rw[hf]at hx;rw[show(none:Option Nat).getD k.ops.length=k.ops.length from rfl,abj (aai _)]at hx;cases hx
  |some i=>
   rw[hf]at hx;have:=abN.1 hf;obtain⟨a1,a2,_⟩:=this;rw[show(some i).getD k.ops.length=i from rfl,wy a1]at hx;cases hx;simpa using a2
 have jE:∀n:Nat,(jL k.ops (dm k.ops) ⟨obj,0⟩)[n]? =if n=dm k.ops then some ⟨obj,0⟩else k.ops[n]? :=λn=>by
  unfold jL;split
  .rename_i e;rw[e];by_cases hn:n=k.ops.length
   .subst hn;rw[if_pos rfl,aaS (aai _)];simp
   .rw[if_neg hn];rcases aax n k.ops.length with a|a
    .exact aaW a
    .rw[aaS a,abj a];cases e2:n-k.ops.length with
     |zero=>omega
     |succ m=>rfl
  .rename_i e;have ax:dm k.ops<k.ops.length:=om;by_cases hn:n=dm k.ops
   .subst hn;rw[if_pos rfl,aaj ax]
   .rw[if_neg hn,aam (λa=>hn a.symm)]
 have k7:KI ⟨k.l,jL k.ops (dm k.ops) ⟨obj,0⟩,k.ps⟩:=by
  refine h.Qk ?_ (λn o hx hio=>?_) λo hx=>?_
  .unfold jL;split
   .rw[abT];simp;omega
   .rw[abt];exact h.lo
  .rw[jE];by_cases e:n=dm k.ops
   .subst e;have:=N6 o hx;obtain⟨j,_,e2,_⟩:=hio;omega
   .rw[if_neg e];exact⟨o,hx,hio⟩
  .unfold jL at hx;split at hx
   .rcases abH.1 hx with hx|hx
    .exact h.di o hx
    .simp at hx;subst hx;exact⟨aew _,by show(0:Int)<=64;omega⟩
   .rcases abF hx with hx|rfl
    .exact h.di o hx
    .exact⟨aew _,by show(0:Int)<=64;omega⟩
 refine k7.dI hp bO (tJ (h.sl x (Vm hp))) λs hs hh=>?_
 rcases c3 s hs with hs|rfl
 .exact k7.cap x (Vm hp) s hs hh
 .exact⟨uU.1 c1,dm k.ops,⟨obj,0⟩,rfl,by rw[jE,if_pos rfl],ho⟩
theorem KI.exit{k:Kr}(h:KI k){p code:Int}(he:(gg k p code).2=0):KI (gg k p code).1:=by
 unfold gg at he|-;split at he
 .cases he
 rename_i h1;rw[if_neg h1];split at he
 .cases he
 rename_i h2;rw[if_neg h2];refine h.tS (by rw[abt];exact h.lp) (by rw[abt];exact aai _) λy hy=>?_
 rcases abF hy with hy|rfl
 .exact h.Bl hy
 .exact⟨aD,λ_=>rfl,λs hs=>by cases hs⟩
theorem KI.fen{k:Kr}(h:KI k)(p:Nat):KI ⟨k.l,k.ops,kU k.ps p⟩:=by
 unfold kU;cases hp:k.ps[p]? with
 |none=>exact h
 |some x=>
  refine h.tS (by rw[abt];exact h.lp) (by rw[abt];exact aai _) λy hy=>?_
  have:=h.Bl (Vm hp);rcases abF hy with hy|rfl
  .exact h.Bl hy
  .exact⟨this.sl,this.aE,this.cap⟩
theorem H5{l:List Obj}{ps:List aL}(h:¬ir l ps<0):∃c:Nat,ir l ps=c/\c<=ps.length/\c<8/\(c<ps.length->tt l ps c=true):=by obtain⟨c,hc⟩:∃c:Nat,ir l ps=c:=⟨(ir l ps).toNat,om⟩;obtain⟨h1,_,h3,h4⟩:=pS l ps 8 0 c hc (WG _);exact⟨c,hc,h1,om,h4⟩
theorem Ql{k:Kr}{c:Nat}(hc:c<k.ps.length):P7 k (dN c):=⟨Ej _,by simp[dN],rfl,rfl,by simp[dN],rfl,rfl,λh=>by simp[dN]at h,λ_=>⟨c,rfl,hc⟩⟩
theorem uV{ps:List aL}{n c:Nat}{x:aL}(hn:ps[n]? =some x)(hc:c<=ps.length):(il ps n c).length=(if c=ps.length then ps.length+1 else ps.length)/\(il ps n c)[c]? =some ⟨true,x.fenced,0,x.an⟩/\(∀i,i≠c->(il ps n c)[i]? =ps[i]?)/\(∀y,y∈il ps n c->y∈ps\/y=⟨true,x.fenced,0,x.an⟩):=by
 unfold il;rw[hn];simp only[];split
 .rename_i e;subst e;refine⟨aD,by rw[aaS (aai _)];simp,λi hi=>?_,λy hy=>by simpa using hy⟩
  rcases aax i ps.length with a|a
  .exact aaW a
  .rw[aaS a,abj a];cases e2:i-ps.length with
   |zero=>omega
   |succ m=>rfl
 .exact⟨aD,aaj om,λi hi=>aam (λe=>hi e.symm),λy hy=>abF hy⟩
structure aa5(k:Kr)(p:Nat)(x:aL)(c:Nat):Prop where
 le:c<=k.ps.length
 c8:c<8
 aE:c<k.ps.length->tt k.l k.ps c=true
 ne:p≠c
 em:(aM k.l (dN c)).2.2=0
 eo:(aI ⟨(aM k.l (dN c)).1,k.ops,il k.ps p c⟩ p (aM k.l (dN c)).2.1 3200).2.2=0
 R:jm k p=((aI ⟨(aM k.l (dN c)).1,k.ops,il k.ps p c⟩ p (aM k.l (dN c)).2.1 3200).1,(c:Int),(aI ⟨(aM k.l (dN c)).1,k.ops,il k.ps p c⟩ p (aM k.l (dN c)).2.1 3200).2.1,0)
theorem sb{k:Kr}{p:Nat}{x:aL}(hp:k.ps[p]? =some x)(bO:x.aF=true)(he:(jm k p).2.2.2=0):∃c:Nat,aa5 k p x c:=by
 have hl:fa k.ps p=true:=by have eF:=(Lw.1 hp).1;refine Su eF ?_;have:=wy eF;rw[hp]at this;cases this;exact bO
 unfold jm at he;rw[if_neg (by rw[hl];simp)]at he
 split at he
 .cases he
 rename_i hf;obtain⟨c,hc,c1,c2,c3⟩:=H5 hf;rw[hc,aal,aal]at he;have hR:jm k p=yn k.l k.ops (il k.ps p c) p c:=by
  rw[jm,if_neg (by rw[hl];simp),if_neg hf,hc,aal,aal]
 unfold yn at he;split at he
 .rename_i h1;exact absurd he h1
 rename_i h1;split at he
 .rename_i h2;exact absurd he h2
 rename_i h2;refine⟨c,c1,c2,c3,λe=>?_,aah h1,aah h2,?_⟩
 .subst e;have:=c3 (Lw.1 hp).1;rw[tt,hp]at this;simp only[bO]at this;cases this
 .rw[hR,yn,if_neg h1,if_neg h2]
theorem KI.afq{k:Kr}(h:KI k){p:Nat}{x:aL}(hp:k.ps[p]? =some x)(bO:x.aF=true)(he:(jm k p).2.2.2=0):KI (jm k p).1:=by
 obtain⟨c,C⟩:=sb hp bO he;obtain⟨g1,g2,g3,g4⟩:=uV hp C.le;have hx:=h.Bl (Vm hp);have h1:KI ⟨k.l,k.ops,il k.ps p c⟩:=by
  refine h.tS ?_ ?_ λy hy=>?_
  .rw[g1];have:=C.c8;have:=h.lp;split<;>omega
  .rw[g1];split<;>omega
  .rcases g4 y hy with hy|rfl
   .exact h.Bl hy
   .exact⟨hx.sl,λhd=>(by cases hd),hx.cap⟩
 have gF:c<(il k.ps p c).length:=(Lw.1 g2).1;have h2:=h1.make (Ql gF) C.em;obtain⟨j,j1,j2,_⟩:=gq C.em h.ll;rw[C.R];refine h2.iu (p:=p) (x:=x) (by show(il k.ps p c)[p]? =some x;rw[g3 p C.ne];exact hp) bO ⟨j,_,j1,j2,by simp[dN]⟩ C.eo
end Kn
end Go.Proofs.YtllkfpggoigbaaaGreatDoor
