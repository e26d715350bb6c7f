/- Part 28 of 35. -/
import Derived.Test.YtllkfpggoigbaaaGreatDoorS15
import Derived.Test.YtllkfpggoigbaaaGreatDoorS16
import Derived.Test.YtllkfpggoigbaaaGreatDoorS17
import Derived.Test.YtllkfpggoigbaaaGreatDoorS27
set_option linter.unusedVariables false
set_option linter.unusedSimpArgs false
set_option linter.unnecessarySimpa false
set_option maxRecDepth 100000
set_option maxHeartbeats 0
namespace Go.Proofs.YtllkfpggoigbaaaGreatDoor
open Proofs.Tryz
open Go.AM Go.ChangeShapes Go.WideShapes Go.ChangeAt Go.RowKit
theorem CK{l:List Obj}(h:∀o,o∈l->o.ah≠0)(hl:l.length<40)(o:Obj){m:Mem}{K:CV->Mem->Prop}(hK:K (.bG [K9 (bN (l++ [o])),cK (l.length:Nat),cK 0]) m):ap prog 27 [fX (bN l),o.zY.cv] m K:=by
 refine Lb (bN l) (by rw[fp];omega) o.zY ?_
 rw[Qb h hl];exact hK
theorem Th{l:List Obj}(h:∀o,o∈l->o.ah≠0)(p:Int):∀o,o∈l++ [bg p]->o.ah≠0:=λo ho=>by
 rcases abH.1 ho with ho|ho
 .exact h o ho
 .rw[abQ.1 ho];simp[bg]
theorem ET(a:CV)(p:Int):kJ [a,.rv (.agg [.ai (.val (.int .i64 4)),.bt,.bt,.ai (.val (.string ⟨#[]⟩)),.ai (.val (.int .i64 p)),.bt,.ai (.val (.int .i64 (-1))),.ai (.val (.int .i64 0)),.ai (.val (.int .i64 0))])] [a,(bg p).zY.cv]:=
 .cO _ (.agg (.cons (.cO _) (.cons (.bt 1) (.cons (.bt 2) (.cons (.cO _) (.cons (.cO _) (.cons .no (.cons (.cO _) (.cons (.cO _) (.cons (.cO _) .nil))))))))) .nil)
def Nb(q:Int):Obj:=⟨5,[],[],⟨#[]⟩,-1,[],q,0,0⟩
theorem Ti(a:CV)(q:Int):kJ [a,.rv (.agg [.ai (.val (.int .i64 5)),.bt,.bt,.ai (.val (.string ⟨#[]⟩)),.ai (.val (.int .i64 (-1))),.bt,.ai (.val (.int .i64 q)),.ai (.val (.int .i64 0)),.ai (.val (.int .i64 0))])] [a,(Nb q).zY.cv]:=
 .cO _ (.agg (.cons (.cO _) (.cons (.bt 1) (.cons (.bt 2) (.cons (.cO _) (.cons (.cO _) (.cons .no (.cons (.cO _) (.cons (.cO _) (.cons (.cO _) .nil))))))))) .nil)
theorem HU{l:List Obj}(h:∀o,o∈l->o.ah≠0)(hl:l.length<39):body prog c30 [fX (bN l)] [] (λr m=>cH m r (.bG [K9 (bN (l++ [bg ((l.length+1:Nat):Int),bg (l.length:Int)])),R9 ((l.length:Int),((l.length+1:Nat):Int)),cK 0])):=by
 refine jd (ET _ _) (CK h om _ ?_);refine jd (ET _ _) (CK (Th h _) (by simp;omega) _ ?_)
 have ax:l.length<(l++ [bg (-1)]++ [bg (l.length:Int)]).length:=aD;refine af (eZ (by rw[fp];exact ax)) ?_
 refine fw (bN (l++ [bg (-1)]++ [bg (l.length:Int)])) (by rw[fp];simp;omega) l.length (by rw[fp];simp) {(bN (l++ [bg (-1)]++ [bg (l.length:Int)]))[l.length]'(by rw[fp];exact ax)with aG:=((l++ [bg (-1)]).length:Int)} ?_
 have e:fC (bN (l++ [bg (-1)]++ [bg (l.length:Int)])) l.length {(bN (l++ [bg (-1)]++ [bg (l.length:Int)]))[l.length]'(by rw[fp];exact ax)with aG:=((l++ [bg (-1)]).length:Int)}=bN (l++ [bg ((l.length+1:Nat):Int),bg (l.length:Int)]):=by
  rw[JR ax,show(l++ [bg (-1)]++ [bg (l.length:Int)])[l.length]=bg (-1) by simp,fC,if_neg (by rw[fp];simp;omega),aal,bN,show({(bg (-1)).zY with aG:=((l++ [bg (-1)]).length:Int)}:Ob)=(bg ((l.length+1:Nat):Int)).zY by simp[bg,Obj.zY],<-List.map_set,acC,acN _ _ (aai _)]
  simp[bN]
 rw[e];have e2:((l++ [bg (-1)]).length:Int)=((l.length+1:Nat):Int):=aD;rw[e2];exact jV (dE.self rfl) (dE.self rfl)
theorem Qe{l:List Obj}(h:∀o,o∈l->o.ah≠0)(hl:l.length<39){m:Mem}{K:CV->Mem->Prop}(hK:K (.bG [K9 (bN (l++ [bg ((l.length+1:Nat):Int),bg (l.length:Int)])),R9 ((l.length:Int),((l.length+1:Nat):Int)),cK 0]) m):ap prog 30 [fX (bN l)] m K:=
 aR (aP func30 l30 (HU h hl)) (by simp[fX,ia,CV.cW,CC.cW]) λr m1 hr=>⟨_,hr,hK⟩
def EU(n:Nat)(l:List dJ):Prop:=l.length<=10/\∀s,s∈l->s.has=true/\HS n s.b8 s.rts
theorem EU.nil(n:Nat):EU n []:=⟨aD,aD⟩
theorem HV{n:Nat}(l:List dJ)(hS:EU n l)(b8 rts:Int)(hC:HS n b8 rts):body prog c31 [lY l,.rv (.agg [.ai (.val (.int .i64 b8)),.ai (.val (.int .i64 rts))])] []
  (λr m=>∃(y:List dJ)(fd e:Int),(e=0->EU n y)/\cH m r (.bG [B6 y,cK fd,cK e])):=by
 have hl:=hS.1;have bad:∀m e,e≠0->∃(y:List dJ)(fd:Int)(e':Int),(e'=0->EU n y)/\cH m (.bG [.one .bt,cK 0,cK e]) (.bG [B6 y,cK fd,cK e']):=λm e he=>⟨[],0,e,λh=>absurd h he,Ot (.one (.bt 3))⟩
 refine am (λh=>?_) (λh1=>?_)
 .exact bad _ 3 (by decide)
 refine am (λh=>?_) (λh2=>?_)
 .exact bad _ 3 (by decide)
 refine am (λh=>?_) (λh3=>?_)
 .exact bad _ 3 (by decide)
 refine⟨by simp[aa,bA]<;>omega,?_⟩
 refine ar (λk=>k<=l.length) [0,3,26] (λk=>[(27,al .i64 (k:Nat)),(7,.rv (.one (.row 1 3 0 none))),(25,.rv (.one (.row 1 3 0 none)))])
  (λ_=>[.var [.ai (.val (.int .i64 b8)),.ai (.val (.int .i64 rts))],.row 3 (aa (l.map dJ.enc))]) (λk=>l.length-k) 0 (WG _) ?_ (λk hk=>?_)
 .refine View.o1 3 [0,2] [] ?_
  .exact .pe rfl rfl rfl (.pt rfl rfl (.bn (by simp[bA,aa])) (.nil _))
 have hk:k<=l.length:=hk;have hlen:(aa (l.map dJ.enc)).length=l.length:=by simp[aa]
 refine am (λh=>?_) (λh=>?_)
 .have ax:k<l.length:=by have h:(k:Int)<(((([]:List (List CC))++aa (l.map dJ.enc)).length:Nat):Int):=h;rw[aed,hlen]at h;omega
  have oH:dL (k:Int) (lenOf (aa (l.map dJ.enc)).length 0 none)=some k:=bJ (by simpa[hlen,lenOf]using ax)
  refine af oH ?_;refine af (bm dJ.enc l ax) ?_;have lS:k<10:=om;generalize l[k]=s;refine aA (λ_=>?_) (λ_=>?_)
  .refine af oH ?_;refine af (bm dJ.enc l ax) ?_;refine⟨l.set k ⟨true,b8,rts⟩,k,0,λ_=>⟨by simpa using hl,λs hs=>by rcases abF hs with hs|rfl<;>first|exact hS.2 s hs|exact⟨rfl,hC⟩⟩,Ot (.one (d7.da ?_ 0 none))⟩
   show some (Bk.row 3 (aX (aa (l.map dJ.enc)) k _))=_;rw[<-aa,<-lZ dJ.enc];rfl
  .refine⟨k+1,ax,(show l.length-(k+1)<l.length-k by omega),View.o2 2 [0,1] [] ?_⟩
   .exact .au
 .refine am (λh=>?_) (λRj=>?_)
  .exact bad _ 15 (by decide)
  .have Rj:l.length<10:=by have h:¬(((aa (l.map dJ.enc)).length:Int)>=10):=Rj;rw[hlen]at h;omega
   refine⟨by simp[aa,bA]<;>omega,?_⟩
   refine⟨l++ [⟨true,b8,rts⟩],_,0,λ_=>⟨by simp<;>omega,λs hs=>by rcases abH.1 hs with hs|hs<;>first|exact hS.2 s hs|(simp at hs;subst hs;exact⟨rfl,hC⟩)⟩,Ot (.one (d7.da ?_ 0 none))⟩
   show some (Bk.row 3 _)=some (Bk.row 3 _);simp[bA,aa,dJ.enc]
theorem od{n:Nat}(l:List dJ)(hS:EU n l)(b8 rts:Int)(hC:HS n b8 rts){m:Mem}{K:CV->Mem->Prop}(h:∀(y:List dJ)(fd e:Int),(e=0->EU n y)->K (.bG [B6 y,cK fd,cK e]) m):
  ap prog 31 [lY l,.rv (.agg [.ai (.val (.int .i64 b8)),.ai (.val (.int .i64 rts))])] m K:=by
 refine aR (K0:=λr m=>∃(y:List dJ)(fd e:Int),(e=0->EU n y)/\cH m r (.bG [B6 y,cK fd,cK e])) (lV (args:=[lY l,.rv (.agg [.ai (.val (.int .i64 b8)),.ai (.val (.int .i64 rts))])]) func31 l31 rfl (aav rfl) (HV l hS b8 rts hC)) (by simp[lY,gL,CV.cW,CC.cW,RV.cW]) λr m1 hr=>?_
 obtain⟨y,fd,e,hy,hf⟩:=hr;exact⟨_,hf,h y fd e hy⟩
def KPN(r:CV)(m:Mem):Prop:=∃r' m',View 0 ⟨[r],m⟩ ⟨[r'],m'⟩/\(∃k:Kr,Kn.KI k/\r'=cA k.l k.ops k.ps)/\m'=[]
def EKN:Ex->St->Prop:=nu prog c9.lM KPN
structure StN where
 i:Nat
 b:List Int
 l:List Obj
structure CL(l:List Obj)(ops:List aT)(ps:List aL)(i:Nat)(l2:List Obj):Prop where
 len:l2.length=l.length
 ki:Kn.KI ⟨l2,ops,ps⟩
 nz:∀o,o∈l2->o.ah≠0
 old:∀j,i<=j->l2[j]? =l[j]?
theorem CL.next{l l2:List Obj}{ops:List aT}{ps:List aL}{i:Nat}(h:CL l ops ps i l2):CL l ops ps (i+1) l2:=⟨h.len,h.ki,h.nz,λj hj=>h.old j om⟩
theorem CL.set{l l2:List Obj}{ops:List aT}{ps:List aL}{i:Nat}(h:CL l ops ps i l2)(hnz:∀o,o∈l->o.ah≠0){o:Obj}(ho:l[i]? =some o){q:cy}(hq:q.M1)(hd:q.data.length<=64)(hc:q.has=true->Kn.fS ⟨l2,ops,ps⟩ q.b8 q.rts):CL l ops ps (i+1) (l2.set i {o with aj:=[q]}):=by
 have o0:l2[i]? =some o:=by rw[h.old i (aai _)];exact ho
 have hs:=h.ki.sm o (Vm o0);have wx:=h.ki.P2 o (Vm o0);refine⟨by rw[abt];exact h.len,h.ki.Hw o0 ⟨rfl,rfl,rfl,rfl,rfl,rfl⟩ (hnz o (Vm ho)) ⟨⟨hs.t.1,hs.t.2.1,λx hx=>?_⟩,hs.d,hs.e,(show [q].length<=8 by simp),λx hx=>?_⟩ wx λx hx hh=>?_,λx hx=>?_,λj hj=>?_⟩
 .have hx:x∈ [q]:=hx;rw[abQ.1 hx];exact hq
 .have hx:x∈ [q]:=hx;rw[abQ.1 hx];exact hd
 .have hx:x∈ [q]:=hx;rw[abQ.1 hx]at hh|-;exact hc hh
 .rcases abF hx with hx|rfl
  .exact h.nz x hx
  .exact hnz o (Vm ho)
 .rw[aam om];exact h.old j om
theorem y9{l:List Obj}{k:Nat}(hl:l.length<=40)(hk:k<l.length){o:Ob}(o':Obj)(e:o=o'.Vi){m:Mem}{K:CV->Mem->Prop}(h:K (fX (bM (l.set k o'))) m):ap prog 29 [fX (bM l),al .i64 (k:Nat),o.cv] m K:=by
 refine fw (bM l) (by rw[HT];omega) k (by rw[HT];omega) o ?_
 rw[fC,if_neg (by rw[HT];omega),aal,e,bM,<-abW]
 exact h
theorem Tj(b:List Int)(hb:t6 b){n:Nat}(l:List Obj)(g:GB n l)(ops:List aT)(ps:List aL)(Qf:Tf l.length ops)(i3:PrB n ops.length ps):
  aw prog 0 (l5 (oK Wa)) (ow (aw prog 0 adP) EKN) ⟨i5 299 [(2,.rv (.one (.ptr 0 0))),(3,.rv (.one (.ptr 1 0))),(19,.rv (.one (.ptr 2 0)))],[.var z3,qD b,.var [.ai (ia (bN l)),.ai (de ops),.ai (dZ ps)]]⟩:=by
 have Cj:=g.len;have ajT:=Qf.l;have RX:=fp l;refine ar (λ(a:StN)=>a.i<=l.length/\t6 a.b/\CL l ops ps a.i a.l) [2,3,19,248,249] (λa=>[(250,al .i64 (a.i:Nat))]) (λa=>[.var z3,qD a.b,.var [.ai (ia (bM a.l)),.ai (de ops),.ai (dZ ps)]]) (λa=>l.length-a.i) ⟨0,b,l⟩
  ⟨WG _,hb,rfl,g.gu Qf i3,g.nz,λ_ _=>rfl⟩ ?_ (λa ha=>?_)
 .show View _ _ ⟨_,[_,_,.var [.ai (ia (bM l)),_,_]]⟩;rw[Xe g.q];refine View.o1 3 [0,1,2] [] ?_
  .exact .au
 obtain⟨i,b1,l2⟩:=a;obtain⟨h1,h2,h3⟩:=ha;have h1:i<=l.length:=h1;have h2:t6 b1:=h2;have h3:CL l ops ps i l2:=h3;refine am (λh=>?_) (λh=>?_)
 .have ax:i<l.length:=by have h:(i:Int)<(((bN l).map Ob.enc).length:Int):=h;rw[O9,RX]at h;omega
  have hl2:=h3.len;have pK:=eZ (l:=bN l) (k:=i) om;rw[JR ax]at pK;have hF:∀q:cy,q.M1->q.data.length<=64->(q.has=true->HS ops.length q.b8 q.rts)->CL l ops ps (i+1) (l2.set i {l[i]with aj:=[q]}):=λq a1 a2 a3=>h3.set g.nz (wy ax) a1 a2 λhh=>by
   exact(a3 hh).in (l:=l2) h3.nz (by rw[h3.len];exact Qf)
  generalize l[i]=o at pK hF;obtain⟨ah,data,ag,target,aG,aj,aQ,ak,up⟩:=o;have pK:cm ((bN l).map Ob.enc) (i:Nat)=some [.val (.int .i64 ah),.sl 1 data,.sl 2 ag,.val (.string target),.val (.int .i64 aG),noD,.val (.int .i64 aQ),.val (.int .i64 ak),.val (.int .i64 up)]:=pK;refine af pK ?_;refine cj [2,3,19,31,32,248,249,250] [] ([.var z3,qD b1,.var [.ai (ia (bM l2)),.ai (de ops),.ai (dZ ps)],.var [.ai (.val (.int .i64 ah)),.ai (.sl 1 data),.ai (.sl 2 ag),.ai (.val (.string target)),.ai (.val (.int .i64 aG)),.bt,.ai (.val (.int .i64 aQ)),.ai (.val (.int .i64 ak)),.ai (.val (.int .i64 up))]]) (View.o1 4 [0,1,2,3] [] ?_) ?_
  .exact .pe rfl rfl rfl (.pt rfl rfl (.eq rfl (fO _)) (.pe rfl rfl rfl (.pt rfl rfl (dy.var (.cons (.aN (.ai _)) (.cons (.aN (.ai _)) (.cons (.aN (.ai _)) (.cons (.aN (.ai _)) (.cons (.aN (.ai _)) (.cons .un (.cons (.aN (.ai _)) (.cons (.aN (.ai _)) (.cons (.aN (.ai _)) .nil)))))))))) (.nil _))))
  refine ba (λhk4=>?_) (λhk4=>?_)
  .refine bU b1 h2 2 1 rfl λx b2 kG _ _ _=>?_
   refine ba (λ_=>?_) (λ_=>?_)
   .refine am (λhn=>?_) (λhn=>?_)
    .refine bU b2 kG 2 1 rfl λy b3 Rg _ _ _=>?_
     refine ba (λ_=>?_) (λ_=>?_)
     .refine bU b3 Rg _ 1 rfl λz b4 WH NJ _ _=>?_
      have NJ:z<ops.length:=by have hn:((ops.map aT.enc).length:Int)>0:=hn;have NJ:(1:Int)<=((ops.map aT.enc).length:Int)->(z:Int)<((ops.map aT.enc).length:Int):=NJ;rw[O9]at hn NJ;have:=NJ om;omega
      refine bU b4 WH 200 1 rfl λw b5 hb5 hw _ _=>?_
      have hw:=hw om;refine⟨by simp[bA],?_⟩
      have hF:=hF ⟨eX [109],true,(z:Nat),(w:Nat)⟩ ⟨_,rfl⟩ (by simp[eX]) (λ_=>⟨⟨by show(0:Int)<=((w:Nat):Int);omega,by show((w:Nat):Int)<=4095;omega⟩,z,rfl,NJ⟩)
      refine ek (iQ:=[fX (bM l2),al .i64 (i:Nat),(Ob.mk ah data ag target aG (.sl 4 [cy.enc ⟨eX [109],true,(z:Nat),(w:Nat)⟩]) aQ ak up).cv]) (m':=[.var z3,qD b5,.var [.ai (ia (bM l2)),.ai (de ops),.ai (dZ ps)],.aE,.aE,.aE,.aE,.aE]) (View.o 8 [0,1,2,3,4,5,6,7] [7,4]
       (.eq rfl (.eq rfl (.put (ld.agg (.cons (.aN (.ai _)) (.cons (.aN (.ai _)) (.cons (.aN (.ai _)) (.cons (.aN (.ai _)) (.cons (.aN (.ai _)) (.cons (.dG (Wb (Z:=λk=>bc [7,4] k=true) rfl rfl rfl (by simp[bA]) rfl)) (.cons (.aN (.ai _)) (.cons (.aN (.ai _)) (.cons (.aN (.ai _)) .nil)))))))))) .nil)))
       (.pe rfl rfl rfl (.pt rfl rfl (.eq rfl (fO _)) (.pe rfl rfl rfl (.aE (.aE (.aE (.aE (.aE (.nil _)))))))))) ?_
      refine y9 om om ⟨ah,data,ag,target,aG,[⟨eX [109],true,(z:Nat),(w:Nat)⟩],aQ,ak,up⟩ rfl ?_;refine⟨⟨i+1,b5,_⟩,⟨ax,by assumption,hF⟩,(show l.length-(i+1)<l.length-i by omega),View.o2 8 [0,1,2] [] ?_⟩
      .exact .au
     .skip
      refine⟨by simp[bA],?_⟩
      have hF:=hF ⟨eX [109],false,0,0⟩ ⟨_,rfl⟩ (by simp[eX]) (λh=>by cases h)
      refine ek (iQ:=[fX (bM l2),al .i64 (i:Nat),(Ob.mk ah data ag target aG (.sl 4 [cy.enc ⟨eX [109],false,0,0⟩]) aQ ak up).cv]) (m':=[.var z3,qD b3,.var [.ai (ia (bM l2)),.ai (de ops),.ai (dZ ps)],.aE,.aE,.aE,.aE,.aE]) (View.o 8 [0,1,2,3,4,5,6,7] [7,4]
       (.eq rfl (.eq rfl (.put (ld.agg (.cons (.aN (.ai _)) (.cons (.aN (.ai _)) (.cons (.aN (.ai _)) (.cons (.aN (.ai _)) (.cons (.aN (.ai _)) (.cons (.dG (Wb (Z:=λk=>bc [7,4] k=true) rfl rfl rfl (by simp[bA]) rfl)) (.cons (.aN (.ai _)) (.cons (.aN (.ai _)) (.cons (.aN (.ai _)) .nil)))))))))) .nil)))
       (.pe rfl rfl rfl (.pt rfl rfl (.eq rfl (fO _)) (.pe rfl rfl rfl (.aE (.aE (.aE (.aE (.aE (.nil _)))))))))) ?_
      refine y9 om om ⟨ah,data,ag,target,aG,[⟨eX [109],false,0,0⟩],aQ,ak,up⟩ rfl ?_;refine⟨⟨i+1,b3,_⟩,⟨ax,by assumption,hF⟩,(show l.length-(i+1)<l.length-i by omega),View.o2 8 [0,1,2] [] ?_⟩
      .exact .au
    .skip
     refine⟨by simp[bA],?_⟩
     have hF:=hF ⟨eX [109],false,0,0⟩ ⟨_,rfl⟩ (by simp[eX]) (λh=>by cases h)
     refine ek (iQ:=[fX (bM l2),al .i64 (i:Nat),(Ob.mk ah data ag target aG (.sl 4 [cy.enc ⟨eX [109],false,0,0⟩]) aQ ak up).cv]) (m':=[.var z3,qD b2,.var [.ai (ia (bM l2)),.ai (de ops),.ai (dZ ps)],.aE,.aE,.aE,.aE,.aE]) (View.o 8 [0,1,2,3,4,5,6,7] [7,4]
      (.eq rfl (.eq rfl (.put (ld.agg (.cons (.aN (.ai _)) (.cons (.aN (.ai _)) (.cons (.aN (.ai _)) (.cons (.aN (.ai _)) (.cons (.aN (.ai _)) (.cons (.dG (Wb (Z:=λk=>bc [7,4] k=true) rfl rfl rfl (by simp[bA]) rfl)) (.cons (.aN (.ai _)) (.cons (.aN (.ai _)) (.cons (.aN (.ai _)) .nil)))))))))) .nil)))
      (.pe rfl rfl rfl (.pt rfl rfl (.eq rfl (fO _)) (.pe rfl rfl rfl (.aE (.aE (.aE (.aE (.aE (.nil _)))))))))) ?_
     refine y9 om om ⟨ah,data,ag,target,aG,[⟨eX [109],false,0,0⟩],aQ,ak,up⟩ rfl ?_;refine⟨⟨i+1,b2,_⟩,⟨ax,by assumption,hF⟩,(show l.length-(i+1)<l.length-i by omega),View.o2 8 [0,1,2] [] ?_⟩
     .exact .au
   .skip
    refine⟨⟨i+1,b2,l2⟩,⟨ax,by assumption,h3.next⟩,(show l.length-(i+1)<l.length-i by omega),View.o2 4 [0,1,2] [] ?_⟩
    .exact .au
  .skip
   refine⟨⟨i+1,b1,l2⟩,⟨ax,by assumption,h3.next⟩,(show l.length-(i+1)<l.length-i by omega),View.o2 4 [0,1,2] [] ?_⟩
   .exact .au
 .refine⟨cA l2 ops ps,[],View.o 3 [] [] ?_ (.nil _),⟨⟨l2,ops,ps⟩,h3.ki,rfl⟩,rfl⟩;exact .put (ld.agg (.cons (.dG (.le (aa0 l2))) (.cons (.aN (.ai _)) (.cons (.aN (.ai _)) .nil)))) .nil
namespace Fe
def m4(L:List Nat)(z:Int):Bool:=L.any λn=>z==(n:Int)
theorem fx{L:List Nat}{n:Nat}:m4 L (n:Int)=true↔n∈L:=by
 rw[m4,abP];constructor
 .rintro⟨x,hx,h⟩;have:(n:Int)=x:=by simpa using h
  have:n=x:=om;rw[this];exact hx
 .intro h;exact⟨n,h,aD⟩
def cR(l:List Obj)(z:Int)(L:List Nat):List Nat:=if(ol l z 0&& !m4 L z)=true then L++ [z.toNat]else L
def gK(l:List Obj)(z:Int)(L:List Nat)(bR:Bool):Bool:=if(ol l z 0&& !m4 L z)=true then true else bR
theorem CM{l:List Obj}{z:Int}:ol l z 0=true↔∃n,vO l z n:=by
 unfold ol vO;constructor
 .intro h;by_cases h0:z>=0
  .obtain⟨n,rfl⟩:∃n:Nat,z=n:=⟨z.toNat,om⟩;by_cases hn:n<l.length
   .simp[hn]at h;exact⟨n,rfl,l[n],wy hn,h⟩
   .simp[hn]at h
  .simp[h0]at h
 .rintro⟨n,rfl,o,ho,hk⟩;obtain⟨hn,rfl⟩:=Lw.1 ho;simp[hn,hk]
def kB(l:List Obj)(ops:List aT)(ps:List aL):Bk:= .var [.ai (cT l),.ai (de ops),.ai (dZ ps)]
def dO(ops:List aT)(z:Int):Int:=if 0<=z then(match ops[z.toNat]? with|some o=>o.obj|none=>-1)else -1
theorem mZ{ops:List aT}{k:Nat}(h:k<ops.length):cm (ops.map aT.enc) (k:Nat)=some [.val (.int .i64 ops[k].obj),.val (.int .i64 ops[k].di)]:=by rw[aU,Qu,wy h];rfl
def mk2(l:List Obj)(zs:List Int)(a:List Nat×Bool):List Nat×Bool:=zs.foldl (λa z=>(cR l z a.1,gK l z a.1 a.2)) a
def Tk(l:List Obj)(zs:List Int)(L:List Nat):List Nat:=zs.foldl (λL z=>cR l z L) L
def HW(ops:List aT)(ss:List dJ):List Int:=(ss.filter (·.has)).map λs=>dO ops s.b8
def gd(ops:List aT)(ps:List aL)(p:Int):List Int:=if 0<=p then(match ps[p.toNat]? with|some pr=>if pr.aF=true then HW ops pr.an else []|none=>[])else []
def enZ(o:Obj):List Int:=(o.ag.map kO).map (·.2)
def quZ(ops:List aT)(o:Obj):List Int:=(o.aj.filter (·.has)).map λq=>dO ops q.b8
def Qg(ops:List aT)(ps:List aL)(o:Obj):List Int:=(if o.ah=4 then [o.aG]else [])++((if o.ah=5 then gd ops ps o.aQ else [])++(enZ o++quZ ops o))
def EV(ops:List aT)(ps:List aL)(pl:List Int):List Int:=pl.flatMap (gd ops ps)
theorem lL{l:List Obj}{z:Int}{L:List Nat}{n:Nat}(h:n∈L):n∈cR l z L:=by
 rw[cR];split
 .simp[h]
 .exact h
theorem zc{l:List Obj}{z:Int}{L:List Nat}{n:Nat}(h:vO l z n):n∈cR l z L:=by
 have hI:ol l z 0=true:=CM.2 ⟨n,h⟩;have hz:=h.1;rw[cR,hI];cases hN:m4 L z with
 |true=>
  rw[hz]at hN;exact fx.1 hN
 |false=>
  simp[hz]
theorem wQ{l:List Obj}:∀{zs:List Int}{L:List Nat}{n:Nat},n∈L->n∈Tk l zs L
 | [],_,_,h=>h
 |z::r,L,n,h=>wQ (zs:=r) (lL h)
theorem HX{l:List Obj}:∀{zs:List Int}{L:List Nat}{z:Int}{n:Nat},z∈zs->vO l z n->n∈Tk l zs L
 | [],_,_,_,h,_=>by simp at h
 |y::r,L,z,n,h,hv=>by
  rcases abI.1 h with rfl|h
  .exact wQ (zs:=r) (zc hv)
  .exact HX (zs:=r) h hv
structure Clo(l:List Obj)(ops:List aT)(ps:List aL)(pl:List Int)(S:Nat->Prop):Prop where
 r:∀z,z∈EV ops ps pl->∀n,vO l z n->S n
 s:∀(i:Nat)o,S i->l[i]? =some o->∀z,z∈Qg ops ps o->∀n,vO l z n->S n
structure Inv(l:List Obj)(ops:List aT)(ps:List aL)(pl:List Int)(L:List Nat):Prop where
 nd:L.Nodup
 val:∀n,n∈L->vO l (n:Int) n
 iC:∀S,Clo l ops ps pl S->∀n,n∈L->S n
structure zZ(l:List Obj)(ops:List aT)(ps:List aL)(pl:List Int)(L:List Nat):Prop extends Inv l ops ps pl L where
 clo:Clo l ops ps pl (·∈L)
theorem zZ.cO{l:List Obj}{ops:List aT}{ps:List aL}{pl:List Int}{L L':List Nat}(h:zZ l ops ps pl L)(h':zZ l ops ps pl L')(n:Nat):n∈L↔n∈L':=
 ⟨h.iC _ h'.clo n,h'.iC _ h.clo n⟩
section
variable {l:List Obj} {ops:List aT} {ps:List aL} {pl:List Int}
theorem Inv.mark{L:List Nat}{z:Int}(h:Inv l ops ps pl L)(hz:∀S,Clo l ops ps pl S->(∀m,m∈L->S m)->∀n,vO l z n->S n):Inv l ops ps pl (cR l z L):=by
 by_cases hc:(ol l z 0&& !m4 L z)=true
 .have e1:cR l z L=L++ [z.toNat]:=if_pos hc;have hc:ol l z 0=true/\m4 L z=false:=by simpa using hc
  obtain⟨n,hn⟩:=CM.1 hc.1;have Xg:z=n:=hn.1;have AE:n∉L:=λhm=>by have:=fx.2 hm;rw[<-Xg,hc.2]at this;cases this
  have e3:z.toNat=n:=om;rw[e1,e3];refine⟨?_,λm hm=>?_,λS gF m hm=>?_⟩
  .rw[aeC];refine⟨h.nd,aD,λa ha b hb=>?_⟩
   have:b=n:=by simpa using hb
   intro e;rw[e,this]at ha;exact AE ha
  .rcases abH.1 hm with hm|hm
   .exact h.val m hm
   .have:m=n:=by simpa using hm
    subst this;rw[Xg]at hn;exact hn
  .rcases abH.1 hm with hm|hm
   .exact h.iC S gF m hm
   .have:m=n:=by simpa using hm
    subst this;exact hz S gF (λx hx=>h.iC S gF x hx) m hn
 .have e1:cR l z L=L:=if_neg hc;rw[e1];exact h
theorem Inv.Tk:∀{zs:List Int}{L:List Nat},Inv l ops ps pl L->(∀z,z∈zs->∀S,Clo l ops ps pl S->(∀m,m∈L->S m)->∀n,vO l z n->S n)->Inv l ops ps pl (Fe.Tk l zs L)
 | [],_,h,_=>h
 |z::r,L,h,hz=>Inv.Tk (zs:=r) (h.mark (hz z aD)) λy hy S hS hm n hn=>hz y (by simp[hy]) S hS (λm RL=>hm m (lL RL)) n hn
end
def stO(l:List Obj)(ops:List aT)(ps:List aL)(a:List Nat×Bool)(i:Nat):List Nat×Bool:=if i∈a.1 then(match l[i]? with|some o=>mk2 l (Qg ops ps o) a|none=>a)else a
def afk(l:List Obj)(ops:List aT)(ps:List aL)(a:List Nat×Bool)(k:Nat):List Nat×Bool:=(List.range k).foldl (stO l ops ps) a
def pass(l:List Obj)(ops:List aT)(ps:List aL)(pl:List Int)(L:List Nat):List Nat×Bool:=afk l ops ps (mk2 l (EV ops ps pl) (L,false)) l.length
theorem EW{ops:List aT}{ss:List dJ}{j:Nat}(h:j<ss.length):HW ops (ss.take (j+1))=HW ops (ss.take j)++(if ss[j].has=true then [dO ops ss[j].b8]else []):=by
 unfold HW;rw[nH (wy h),acx,abM,ad9];congr 1;split<;>simp
theorem Xh{ops:List aT}{ps:List aL}{n:Nat}(h:n<ps.length):gd ops ps n=if ps[n].aF=true then HW ops ps[n].an else []:=by rw[gd,if_pos om,aal,wy h]
theorem Tl{ops:List aT}{ps:List aL}{p:Int}(h:p<0):gd ops ps p=[]:=by rw[gd,if_neg om]
theorem Xi{ops:List aT}{ps:List aL}{n:Nat}(h:ps.length<=n):gd ops ps n=[]:=by rw[gd,if_pos om,aal,abj h]
end Fe
namespace Fe
def ii(ops:List aT)(qs:List cy):List Int:=(qs.filter (·.has)).map λq=>dO ops q.b8
theorem p6{ops:List aT}{ss:List cy}{j:Nat}(h:j<ss.length):ii ops (ss.take (j+1))=ii ops (ss.take j)++(if ss[j].has=true then [dO ops ss[j].b8]else []):=by
 unfold ii;rw[nH (wy h),acx,abM,ad9];congr 1;split<;>simp
def iE(z:Int):List Dt:=[.val (.int .i64 z)]
def iY(pl:List Int):CV:= .rv (.one (.ai (.sl 1 (pl.map iE))))
theorem CN{pl:List Int}{k:Nat}(h:k<pl.length):cm (pl.map iE) (k:Nat)=some [.val (.int .i64 pl[k])]:=by rw[aU,Qu,wy h];rfl
end Fe
def c32:LF:=Cq prog f32 [] []
def c33:LF:=Cq prog f33 [] []
def c34:LF:=Cq prog f34 [] [[d9 16 0 .nil],[(d9 13 0 (.cons 13 (some []) .nil))]]
namespace Fe
theorem l33:bs prog f33=some c33:=by kernel_rfl
theorem l34:bs prog f34=some c34:=by kernel_rfl
theorem l32:bs prog f32=some c32:=by kernel_rfl
def nI(k:Nat):List Dt:=[.val (.int .i64 (k:Nat))]
def nl(N:Nat)(H:List Nat):List Bool:=(List.range N).map λi=>decide (i∈H)
def kV(N:Nat)(H:List Nat):Bk:= .row 1 (aa ((nl N H).map bE))
def jB(t c:Nat):Bk:= .var [.ptr 0 0,.row 1 1 0 none,.row t 1 c none]
def W4(l:List Obj)(ops:List aT)(ps:List aL)(H:List Nat)(q:List Nat×Nat):Mem:=[kB l ops ps,kV l.length H,jB 3 q.2,.row 1 (aa (q.1.map nI))]
def W5(l:List Obj)(ops:List aT)(ps:List aL)(H T:List Nat):Mem:=[kB l ops ps,kV l.length H,jB 4 0,.aE,.row 1 (aa (T.map nI))]
def EX(l:List Obj)(z:Int)(H:List Nat)(q:List Nat×Nat):List Nat×Nat:=if(ol l z 0&& !m4 H z)=true then(q.1.drop q.2++ [z.toNat],0)else q
theorem mr(N:Nat)(H:List Nat):(nl N H).length=N:=by simp[nl]
theorem wR{N:Nat}{H:List Nat}{n:Nat}(h:n<N):(nl N H)[n]? =some (decide (n∈H)):=by unfold nl;rw[Qu,aeq h];rfl
theorem Qh{N:Nat}{H:List Nat}{n:Nat}(h:n<N):(nl N H).set n true=nl N (H++ [n]):=by
 apply ab4;intro i;by_cases hi:i<N
 .rw[wR hi];by_cases hn:n=i
  .subst hn;rw[aaj (by rw[mr];exact h)]
   simp
  .rw[aam hn,wR hi];have:(i∈H++ [n])↔i∈H:=by simp;intro e;exact absurd e.symm hn
   rw[decide_eq_decide.2 this]
 .rw[abj (by rw[abt,mr];omega),abj (by rw[mr];omega)]
theorem afl{α:Type}(rows:List α)(c:Nat):bA rows c none=rows.drop c:=by cases c<;>simp[bA]
theorem tP(l:List Obj)(ops:List aT)(ps:List aL)(H:List Nat)(q:List Nat×Nat)(n:Nat)(R:Mem):bW (sg [0,1,2,3] n) (kB l ops ps::kV l.length H::jB 3 q.2:: .row 1 (aa (q.1.map nI))::R) (λk=>bc [] k=true) 0 (W4 l ops ps H q):=
 .pt rfl rfl (.eq rfl (by simp[kB])) (.pr rfl rfl rfl (.pt rfl rfl (.eq rfl (by simp[jB])) (.pn rfl rfl rfl)))
def bS(l:List Obj)(zs:List Int)(s:List Nat×List Nat×Nat):List Nat×List Nat×Nat:=zs.foldl (λs z=>(cR l z s.1,EX l z s.1 s.2)) s
theorem dj(l:List Obj)(x y:List Int)(s:List Nat×List Nat×Nat):bS l (x++y) s=bS l y (bS l x s):=List.foldl_append
theorem wS(l:List Obj):∀(zs:List Int)(s:List Nat×List Nat×Nat),(bS l zs s).1=Tk l zs s.1
 | [],_=>rfl
 |z::r,s=>wS l r _
theorem HY(l:List Obj)(z:Int)(H:List Nat)(q:List Nat×Nat):∃d,cR l z H=H++d/\(EX l z H q).1.drop (EX l z H q).2=q.1.drop q.2++d:=by
 by_cases h:(ol l z 0&& !m4 H z)=true
 .exact⟨[z.toNat],if_pos h,by rw[show EX l z H q=(q.1.drop q.2++ [z.toNat],0)from if_pos h];simp⟩
 .exact⟨[],by rw[show cR l z H=H from if_neg h];simp,by rw[show EX l z H q=q from if_neg h];simp⟩
theorem zd(l:List Obj):∀(zs:List Int)(s:List Nat×List Nat×Nat),∃d,(bS l zs s).1=s.1++d/\(bS l zs s).2.1.drop (bS l zs s).2.2=s.2.1.drop s.2.2++d
 | [],s=>⟨[],by simp[bS],by simp[bS]⟩
 |z::r,s=>by
  obtain⟨d1,h1,h2⟩:=HY l z s.1 s.2;obtain⟨d2,h3,h4⟩:=zd l r (cR l z s.1,EX l z s.1 s.2);refine⟨d1++d2,?_,?_⟩
  .show(bS l r (cR l z s.1,EX l z s.1 s.2)).1=_;rw[h3,<-acC,<-h1]
  .show(bS l r (cR l z s.1,EX l z s.1 s.2)).2.1.drop (bS l r (cR l z s.1,EX l z s.1 s.2)).2.2=_;rw[h4,<-acC,<-h2]
def WP(l:List Obj)(ops:List aT)(ps:List aL)(zs:List Int)(H:List Nat)(q:List Nat×Nat)(r:CV)(m:Mem):Prop:=
 r= .bG []/\((bS l zs (H,q)=(H,q)/\m=W4 l ops ps H q)\/∃H' T',bS l zs (H,q)=(H',T',0)/\m=W5 l ops ps H' T')
structure WI(N:Nat)(s:List Nat×List Nat×Nat):Prop where
 nd:s.1.Nodup
 lt:∀n,n∈s.1->n<N
 le:s.2.1.length<=s.1.length
theorem WI.len{N:Nat}{s:List Nat×List Nat×Nat}(h:WI N s):s.1.length<=N:=by
 have hp:s.1.Perm ((List.range N).filter λi=>decide (i∈s.1)):=(List.perm_ext_iff_of_nodup h.nd (List.nodup_range.filter _)).2 λa=>by simp only[acD,List.mem_range,decide_eq_true_eq];exact⟨λha=>⟨h.lt a ha,ha⟩,λha=>ha.2⟩
 rw[hp.length_eq];exact abJ (acn _ _) aD
theorem WI.step{l:List Obj}{s:List Nat×List Nat×Nat}(h:WI l.length s)(z:Int):WI l.length (cR l z s.1,EX l z s.1 s.2):=by
 by_cases hc:(ol l z 0&& !m4 s.1 z)=true
 .rw[show cR l z s.1=s.1++ [z.toNat]from if_pos hc,show EX l z s.1 s.2=(s.2.1.drop s.2.2++ [z.toNat],0)from if_pos hc];have hc:ol l z 0=true/\m4 s.1 z=false:=by simpa using hc
  obtain⟨n,Xg,o,ho,_⟩:=CM.1 hc.1;have hnn:=(Lw.1 ho).1;have AE:n∉s.1:=λhm=>by have:=fx.2 hm;rw[<-Xg,hc.2]at this;cases this
  have e3:z.toNat=n:=om;rw[e3];refine⟨?_,λm hm=>?_,?_⟩
  .show(s.1++ [n]).Nodup;rw[aeC];refine⟨h.nd,aD,λa ha b hb=>?_⟩
   have:b=n:=by simpa using hb
   intro e;rw[e,this]at ha;exact AE ha
  .rcases abH.1 hm with hm|hm
   .exact h.lt m hm
   .have:m=n:=by simpa using hm
    omega
  .show(s.2.1.drop s.2.2++ [n]).length<=(s.1++ [n]).length;have:=h.le;rw[abT,abT,abZ];simp only[aa2,abO];omega
 .rw[show cR l z s.1=s.1 from if_neg hc,show EX l z s.1 s.2=s.2 from if_neg hc];exact h
theorem WI.bS{l:List Obj}:∀{zs:List Int}{s:List Nat×List Nat×Nat},WI l.length s->WI l.length (Fe.bS l zs s)
 | [],_,h=>h
 |z::r,s,h=>WI.bS (zs:=r) (h.step z)
theorem JT(l:List Obj)(z:Int)(H:List Nat)(q:List Nat×Nat):bS l [z] (H,q)=(cR l z H,EX l z H q):=rfl
theorem Tm(l:List Obj)(ops:List aT)(ps:List aL)(H T:List Nat)(n:Nat)(b:Bk)(R:Mem):bW (sg [0,1,2,3,4] n) (kB l ops ps::kV l.length H::jB 4 0::b:: .row 1 (aa (T.map nI))::R) (λk=>bc [] k=true) 0 (W5 l ops ps H T):=
 .pt rfl rfl (.eq rfl (by simp[kB])) (.pr rfl rfl rfl (.pt rfl rfl (.eq rfl (by simp[jB])) (.aE (.pn rfl rfl rfl))))
theorem Mo(l:List Obj)(ops:List aT)(ps:List aL)(hl:l.length<=4194304)(z:Int)(H:List Nat)(q:List Nat×Nat)(hq:q.1.length<=4194304):
  body prog c33 [.rv (.one (.ptr 2 0)),al .i64 z] (W4 l ops ps H q) (λr m=>∃r' m',View 4 ⟨[r],m⟩ ⟨[r'],m'⟩/\WP l ops ps [z] H q r' m'):=by
 have no:¬((ol l z 0&& !m4 H z)=true)->∃r' m',View 4 ⟨[.bG []],W4 l ops ps H q⟩ ⟨[r'],m'⟩/\WP l ops ps [z] H q r' m':=λh=>by refine⟨.bG [],_,View.o 4 [0,1,2,3] [] (.eq rfl .nil) (tP l ops ps H q 4 []),rfl,.inl ⟨?_,rfl⟩⟩;rw[JT,show cR l z H=H from if_neg h,show EX l z H q=q from if_neg h]
 have hlen:(aa ((nl l.length H).map bE)).length=l.length:=by rw[aJ,O9,mr]
 refine am (λh1=>?_) (λh1=>?_)
 .obtain⟨n,rfl⟩:∃n:Nat,z=n:=⟨z.toNat,by have h1:z>=0:=h1;omega⟩
  refine am (λh2=>?_) (λh2=>?_)
  .have h2:(n:Int)<((aa ((nl l.length H).map bE)).length:Int):=h2;rw[hlen]at h2;have hn:n<l.length:=om;have Tn:n<(nl l.length H).length:=by rw[mr];exact hn
   have vK:(nl l.length H)[n]=decide (n∈H):=by have:=wR (H:=H) hn;rw[wy Tn]at this;exact ac3 this
   refine af (tm Tn) ?_;refine af (oL Tn) ?_;have ip:m4 H (n:Int)=decide (n∈H):=by
    by_cases h:n∈H
    .rw[decide_eq_true h];exact fx.2 h
    .rw[decide_eq_false h];cases hc:m4 H (n:Int)with
     |false=>rfl
     |true=>exact absurd (fx.1 hc) h
   rw[vK];cases hb:decide (n∈H)with
   |true=>exact no (by rw[ip,hb];simp)
   |false=>
    refine af (mW hn) ?_;refine bF (λhk=>?_) (λhk=>?_)
    .have hk:l[n].ah≠0:=hk;have hc:(ol l (n:Int) 0&& !m4 H (n:Int))=true:=by rw[ip,hb];have:ol l (n:Int) 0=true:=CM.2 ⟨n,rfl,l[n],wy hn,hk⟩;rw[this];rfl
     refine af (tm Tn) ?_;have SL:fL 0 n=n:=by simp[fL]
     refine af (x:=[.ai (.val (.bool false))]) (by rw[SL,oL Tn,vK,hb]) ?_
     have hsb:bA (aa (q.1.map nI)) q.2 none=aa ((q.1.drop q.2).map nI):=by rw[afl];simp[aa,ad5]
     refine⟨by show((bA (aa (q.1.map nI)) q.2 none).length+1)*8<=_;rw[hsb,aJ,O9,abZ];omega,?_⟩
     refine⟨.bG [],W5 l ops ps (H++ [n]) (q.1.drop q.2++ [n]),View.o 6 [0,1,2,3,5] [] (.eq rfl .nil) (.pt rfl rfl (.eq rfl (by simp[kB])) (.pt rfl rfl (.bn (ds:=(nl l.length (H++ [n])).map bE) (by rw[SL,GD,Qh hn])) (.pt rfl rfl (.eq (show(jB 4 0).aN _=_ from rfl) (by simp[jB])) (.aE (.pt rfl rfl (.bn (ds:=(q.1.drop q.2++ [n]).map nI) (show bA (aa (q.1.map nI)) q.2 none++ [[.ai (.val (.int .i64 (n:Nat)))]]=_ from by rw[hsb];simp[aa,nI])) (.nil _)))))),rfl,.inr ⟨_,_,?_,rfl⟩⟩
     rw[JT,show cR l (n:Int) H=H++ [n]from if_pos hc,show EX l (n:Int) H q=(q.1.drop q.2++ [n],0)from if_pos hc]
    .have hk:l[n].ah=0:=by simpa using hk
     refine no ?_;have:ol l (n:Int) 0=false:=by
      cases hc:ol l (n:Int) 0 with
      |false=>rfl
      |true=>
       obtain⟨m,hm⟩:=CM.1 hc;obtain⟨e,o,ho,hko⟩:=hm;have:n=m:=om;subst this;rw[wy hn]at ho;cases ho;exact absurd hk hko
     rw[this];simp
  .have h2:¬(n:Int)<((aa ((nl l.length H).map bE)).length:Int):=h2;rw[hlen]at h2;refine no ?_;have:ol l (n:Int) 0=false:=by simp[ol];omega
   rw[this];simp
 .have h1:¬z>=0:=h1;refine no ?_;have:ol l z 0=false:=by simp[ol];omega
  rw[this];simp
theorem mw{l:List Obj}{ops:List aT}{ps:List aL}{f:Nat}{args:List CV}{zs:List Int}{H:List Nat}{q:List Nat×Nat}(hc:ap prog f args (W4 l ops ps H q) (WP l ops ps zs H q))(R:Mem)(dR:args=args.map (CV.aN (sg [0,1,2,3] (R.length+4)))){K:CV->Mem->Prop}(hA:bS l zs (H,q)=(H,q)->K (.bG []) (kB l ops ps::kV l.length H::jB 3 q.2:: .row 1 (aa (q.1.map nI))::R))(hB:∀H' T',bS l zs (H,q)=(H',T',0)->K (.bG []) (kB l ops ps::kV l.length H'::jB (R.length+4) 0:: .aE::fT R [.row 1 (aa (T'.map nI))])):
  ap prog f args (kB l ops ps::kV l.length H::jB 3 q.2:: .row 1 (aa (q.1.map nI))::R) K:=by
 refine be [0,1,2,3] (R.length+4) rfl rfl rfl (by simp[eh,Nat.blt]) (args0:=args) dR (m0:=W4 l ops ps H q) (λi b' hi=>?_) hc (λr m1 hr=>?_)
 .match i,hi with
  |0,hi=>cases hi;exact .inr ⟨λh=>h,_,rfl,.eq rfl (by simp[kB])⟩
  |1,hi=>cases hi;exact .inr ⟨λh=>h,_,rfl,.bn rfl⟩
  |2,hi=>cases hi;exact .inr ⟨λh=>h,_,rfl,.eq rfl (by simp[jB])⟩
  |3,hi=>cases hi;exact .inr ⟨λh=>h,_,rfl,.bn rfl⟩
  |n+4,hi=>simp[W4]at hi
 .obtain⟨rfl,⟨e,rfl⟩|⟨H',T',e,rfl⟩⟩:=hr
  .refine⟨aai _,?_⟩;show K (.bG []) (kB l ops ps::(kV l.length H).aN (sg [0,1,2,3] (R.length+4))::jB 3 q.2::(Bk.row 1 (aa (q.1.map nI))).aN (sg [0,1,2,3] (R.length+4))::fT R []);rw[kV,Bk.ei,Bk.ei,cf,ab9];exact hA e
  .refine⟨by simp[W5,W4],?_⟩
   show K (.bG []) (kB l ops ps::(kV l.length H').aN (sg [0,1,2,3] (R.length+4))::jB (R.length+4+(4-4)) 0:: .aE::fT R [(Bk.row 1 (aa (T'.map nI))).aN (sg [0,1,2,3] (R.length+4))]);rw[kV,Bk.ei,Bk.ei];exact hB H' T' e
theorem HZ(l:List Obj)(ops:List aT)(ps:List aL)(hl:l.length<=4194304)(z:Int)(H:List Nat)(q:List Nat×Nat)(hq:q.1.length<=4194304):ap prog 33 [.rv (.one (.ptr 2 0)),al .i64 z] (W4 l ops ps H q) (WP l ops ps [z] H q):=
 bK (aP func33 l33 (Mo l ops ps hl z H q hq)) λr m1 hr=>hr
end Fe
namespace Fe
theorem Xj{l:List Obj}{ops:List aT}{ps:List aL}{f:Nat}{args:List CV}{zs:List Int}{H T:List Nat}(hc:ap prog f args (W4 l ops ps H (T,0)) (WP l ops ps zs H (T,0)))(R:Mem)(dR:args=args.map (CV.aN (sg [0,1,2,4] (R.length+5)))){K:CV->Mem->Prop}(hA:bS l zs (H,T,0)=(H,T,0)->K (.bG []) (kB l ops ps::kV l.length H::jB 4 0:: .aE:: .row 1 (aa (T.map nI))::R))(hB:∀H' T',bS l zs (H,T,0)=(H',T',0)->K (.bG []) (kB l ops ps::kV l.length H'::jB (R.length+5) 0:: .aE:: .aE::fT R [.row 1 (aa (T'.map nI))])):
  ap prog f args (kB l ops ps::kV l.length H::jB 4 0:: .aE:: .row 1 (aa (T.map nI))::R) K:=by
 refine be [0,1,2,4] (R.length+5) rfl rfl rfl (by simp[eh,Nat.blt]) (args0:=args) dR (m0:=W4 l ops ps H (T,0)) (λi b' hi=>?_) hc (λr m1 hr=>?_)
 .match i,hi with
  |0,hi=>cases hi;exact .inr ⟨λh=>h,_,rfl,.eq rfl (by simp[kB])⟩
  |1,hi=>cases hi;exact .inr ⟨λh=>h,_,rfl,.bn rfl⟩
  |2,hi=>cases hi;exact .inr ⟨λh=>h,_,rfl,.eq rfl (by simp[jB])⟩
  |3,hi=>cases hi;exact .inr ⟨λh=>h,_,rfl,.bn rfl⟩
  |n+4,hi=>simp[W4]at hi
 .obtain⟨rfl,⟨e,rfl⟩|⟨H',T',e,rfl⟩⟩:=hr
  .refine⟨aai _,?_⟩;show K (.bG []) (kB l ops ps::(kV l.length H).aN (sg [0,1,2,4] (R.length+5))::jB 4 0:: .aE::(Bk.row 1 (aa (T.map nI))).aN (sg [0,1,2,4] (R.length+5))::fT R []);rw[kV,Bk.ei,Bk.ei,cf,ab9];exact hA e
  .refine⟨by simp[W5,W4],?_⟩
   show K (.bG []) (kB l ops ps::(kV l.length H').aN (sg [0,1,2,4] (R.length+5))::jB (R.length+5+(4-4)) 0:: .aE:: .aE::fT R [(Bk.row 1 (aa (T'.map nI))).aN (sg [0,1,2,4] (R.length+5))]);rw[kV,Bk.ei,Bk.ei];exact hB H' T' e
theorem vwB(l:List Obj)(ops:List aT)(ps:List aL)(H T:List Nat)(b x:Bk)(R:Mem)(n:Nat):bW (sg [0,1,2,3,5] n) (kB l ops ps::kV l.length H::jB 5 0::b::x:: .row 1 (aa (T.map nI))::R) (λk=>bc [] k=true) 0 (W5 l ops ps H T):=
 .pt rfl rfl (.eq rfl (by simp[kB])) (.pr rfl rfl rfl (.pt rfl rfl (.eq rfl (by simp[jB])) (.aE (.pn rfl rfl rfl))))
theorem afm(l:List Obj)(ops:List aT)(ps:List aL)(H T:List Nat)(b x y:Bk)(R:Mem)(n:Nat):bW (sg [0,1,2,3,6] n) (kB l ops ps::kV l.length H::jB 6 0::b::x::y:: .row 1 (aa (T.map nI))::R) (λk=>bc [] k=true) 0 (W5 l ops ps H T):=
 .pt rfl rfl (.eq rfl (by simp[kB])) (.pr rfl rfl rfl (.pt rfl rfl (.eq rfl (by simp[jB])) (.aE (.pn rfl rfl rfl))))
theorem To(l:List Obj)(s:List Nat×List Nat×Nat):bS l [-1] s=s:=by
 show(cR l (-1) s.1,EX l (-1) s.1 s.2)=s;have h:¬(ol l (-1) 0&& !m4 s.1 (-1))=true:=by simp[ol]
 rw[show cR l (-1) s.1=s.1 from if_neg h,show EX l (-1) s.1 s.2=s.2 from if_neg h]
theorem Mp(l:List Obj)(ops:List aT)(ps:List aL)(hl:l.length<=4194304)(z rts:Int)(H:List Nat)(q:List Nat×Nat)(hq:q.1.length<=4194304):
  body prog c34 [.rv (.one (.ptr 2 0)),.rv (.agg [.ai (.val (.int .i64 z)),.ai (.val (.int .i64 rts))])] (W4 l ops ps H q) (λr m=>∃r' m',View 4 ⟨[r],m⟩ ⟨[r'],m'⟩/\WP l ops ps [dO ops z] H q r' m'):=by
 have no:dO ops z= -1->∃r' m',View 4 ⟨[.bG []],fT (W4 l ops ps H q) [.var [.ai (.val (.int .i64 z)),.ai (.val (.int .i64 rts))]]⟩ ⟨[r'],m'⟩/\WP l ops ps [dO ops z] H q r' m':=λh=>by refine⟨.bG [],_,View.o 5 [0,1,2,3] [] (.eq rfl .nil) (tP l ops ps H q 5 [_]),rfl,.inl ⟨?_,rfl⟩⟩;rw[h,To]
 refine am (λh0=>?_) (λh0=>?_)
 .obtain⟨n,rfl⟩:∃n:Nat,z=n:=⟨z.toNat,by have h0:z>=0:=h0;omega⟩
  refine am (λh=>?_) (λh=>?_)
  .have ax:n<ops.length:=by have h:(n:Int)<((ops.map aT.enc).length:Int):=h;rw[O9]at h;omega
   have hz:dO ops (n:Int)=ops[n].obj:=by rw[dO,if_pos om,aal,wy ax]
   rw[hz];refine af (mZ ax) ?_;refine mw (HZ l ops ps hl ops[n].obj H q hq) [.var [.ai (.val (.int .i64 (n:Nat))),.ai (.val (.int .i64 rts))]] rfl (λe=>?_) (λH' T' e=>?_)
   .exact⟨trivial,.bG [],_,View.o 5 [0,1,2,3] [] (.eq rfl .nil) (tP l ops ps H q 5 [_]),rfl,.inl ⟨e,rfl⟩⟩
   .exact⟨trivial,.bG [],_,View.o 6 [0,1,2,3,5] [] (.eq rfl .nil) (vwB l ops ps H' T' _ _ [] 6),rfl,.inr ⟨H',T',e,rfl⟩⟩
  .have ef:ops.length<=n:=by have h:¬(n:Int)<((ops.map aT.enc).length:Int):=h;rw[O9]at h;omega
   exact no (by rw[dO,if_pos om,aal,abj ef])
 .exact no (by rw[dO,if_neg (by have h0:¬z>=0:=h0;omega)])
theorem sa(l:List Obj)(ops:List aT)(ps:List aL)(hl:l.length<=4194304)(z rts:Int)(H:List Nat)(q:List Nat×Nat)(hq:q.1.length<=4194304):ap prog 34 [.rv (.one (.ptr 2 0)),.rv (.agg [.ai (.val (.int .i64 z)),.ai (.val (.int .i64 rts))])] (W4 l ops ps H q) (WP l ops ps [dO ops z] H q):=
 bK (aP func34 l34 (Mp l ops ps hl z rts H q hq)) λr m1 hr=>hr
structure StW where
 j:Nat
 b:Option (List Nat×List Nat)
def WF(l:List Obj)(ops:List aT)(ps:List aL)(H:List Nat)(q:List Nat×Nat):Option (List Nat×List Nat)->Mem
 |none=>W4 l ops ps H q
 |some x=>W5 l ops ps x.1 x.2
def WJ(H:List Nat)(q:List Nat×Nat)(s:List Nat×List Nat×Nat):Option (List Nat×List Nat)->Prop
 |none=>s=(H,q)
 |some x=>s=(x.1,x.2,0)
theorem H0(l:List Obj)(ops:List aT)(ps:List aL)(hl:l.length<=4194304)(i3:∀p,p∈ps->p.an.length<=4194304)(p:Int)(H:List Nat)(q:List Nat×Nat)(hI:WI l.length (H,q)):
  body prog c32 [.rv (.one (.ptr 2 0)),al .i64 p] (W4 l ops ps H q) (λr m=>∃r' m',View 4 ⟨[r],m⟩ ⟨[r'],m'⟩/\WP l ops ps (gd ops ps p) H q r' m'):=by
 have no:gd ops ps p=[]->∃r' m',View 4 ⟨[.bG []],W4 l ops ps H q⟩ ⟨[r'],m'⟩/\WP l ops ps (gd ops ps p) H q r' m':=λh=>
  ⟨.bG [],_,View.o 4 [0,1,2,3] [] (.eq rfl .nil) (tP l ops ps H q 4 []),rfl,.inl ⟨by rw[h];rfl,rfl⟩⟩
 refine am (λh1=>?_) (λh1=>?_)
 .exact no (Tl h1)
 obtain⟨n,rfl⟩:∃n:Nat,p=n:=⟨p.toNat,by have h1:¬p<0:=h1;omega⟩
 refine am (λh2=>?_) (λh2=>?_)
 .have h2:(n:Int)>=((ps.map aL.enc).length:Int):=h2;rw[O9]at h2;exact no (Xi om)
 have h2:¬(n:Int)>=((ps.map aL.enc).length:Int):=h2;rw[O9]at h2;have hn:n<ps.length:=om;have hpz:=Xh (ops:=ops) hn;have nf:=i3 _ (aaR hn);have hg:cm (ps.map aL.enc) (n:Nat)=some (ps[n].enc):=by rw[aU,Qu,wy hn];rfl
 generalize ps[n]=pr at hg nf hpz;obtain⟨aF,fenced,code,an⟩:=pr;have nf:an.length<=4194304:=nf;refine af (x:=[.val (.bool aF),.val (.bool fenced),.val (.int .i64 code),gL an]) hg ?_;cases aF with
 |false=>exact no hpz
 |true=>
  have hpz:gd ops ps n=HW ops an:=hpz;rw[hpz];refine af (x:=[.val (.bool true),.val (.bool fenced),.val (.int .i64 code),gL an]) hg ?_;refine ar (λa:StW=>a.j<=an.length/\WJ H q (bS l (HW ops (an.take a.j)) (H,q)) a.b) [0,44,45] (λa=>[(46,al .i64 (a.j:Nat))]) (λa=>WF l ops ps H q a.b) (λa=>an.length-a.j) ⟨0,none⟩ ⟨WG _,rfl⟩ ?_ (λa hJ=>?_)
  .refine View.o1 4 [0,1,2,3] [] (tP l ops ps H q 4 [])
  obtain⟨j,b⟩:=a;obtain⟨hj,hb⟩:=hJ;have hj:j<=an.length:=hj;have hb:WJ H q (bS l (HW ops (an.take j)) (H,q)) b:=hb;have FD:WI l.length (bS l (HW ops (an.take j)) (H,q)):=hI.bS;have next:j<an.length->∀ajX:Bool,True:=λ_ _=>trivial
  cases b with
  |none=>
   have hb:bS l (HW ops (an.take j)) (H,q)=(H,q):=hb;refine am (λf4=>?_) (λf4=>?_)
   .have bQ:j<an.length:=by have h:(j:Int)<((an.map dJ.enc).length:Int):=f4;rw[O9]at h;omega
    have ht:=EW (ops:=ops) bQ;have pq:cm (an.map dJ.enc) (j:Nat)=some (an[j].enc):=by rw[aU,Qu,wy bQ];rfl
    generalize an[j]=s at ht pq;obtain⟨has,b8,rts⟩:=s;refine af (x:=[.val (.bool has),.val (.int .i64 b8),.val (.int .i64 rts)]) pq ?_;cases has with
    |true=>
     have hs:bS l (HW ops (an.take (j+1))) (H,q)=bS l [dO ops b8] (H,q):=by rw[ht,dj,hb];rfl
     refine mw (sa l ops ps hl b8 rts H q (abJ hI.le (abJ hI.len hl))) [.var [.ai (.val (.bool true)),.ai (.val (.int .i64 b8)),.ai (.val (.int .i64 rts))]] rfl (λe=>?_) (λH' T' e=>?_)
     .refine⟨⟨j+1,none⟩,⟨bQ,hs.trans e⟩,(show an.length-(j+1)<an.length-j by omega),View.o2 5 [0,1,2,3] [] (tP l ops ps H q 5 [_])⟩
     .refine⟨⟨j+1,some (H',T')⟩,⟨bQ,hs.trans e⟩,(show an.length-(j+1)<an.length-j by omega),View.o2 6 [0,1,2,3,5] [] (vwB l ops ps H' T' _ _ [] 6)⟩
    |false=>
     have hs:bS l (HW ops (an.take (j+1))) (H,q)=(H,q):=by rw[ht,dj,hb];rfl
     refine⟨⟨j+1,none⟩,⟨bQ,hs⟩,(show an.length-(j+1)<an.length-j by omega),View.o2 5 [0,1,2,3] [] (tP l ops ps H q 5 [_])⟩
   .have rJ:j=an.length:=by have h:¬(j:Int)<((an.map dJ.enc).length:Int):=f4;rw[O9]at h;omega
    subst rJ;rw[abD]at hb;exact⟨.bG [],_,View.o 4 [0,1,2,3] [] (.eq rfl .nil) (tP l ops ps H q 4 []),rfl,.inl ⟨hb,rfl⟩⟩
  |some x=>
   obtain⟨H1,T1⟩:=x;have hb:bS l (HW ops (an.take j)) (H,q)=(H1,T1,0):=hb;have RU:WI l.length (H1,T1,0):=hb▸FD;refine am (λf4=>?_) (λf4=>?_)
   .have bQ:j<an.length:=by have h:(j:Int)<((an.map dJ.enc).length:Int):=f4;rw[O9]at h;omega
    have ht:=EW (ops:=ops) bQ;have pq:cm (an.map dJ.enc) (j:Nat)=some (an[j].enc):=by rw[aU,Qu,wy bQ];rfl
    generalize an[j]=s at ht pq;obtain⟨has,b8,rts⟩:=s;refine af (x:=[.val (.bool has),.val (.int .i64 b8),.val (.int .i64 rts)]) pq ?_;cases has with
    |true=>
     have hs:bS l (HW ops (an.take (j+1))) (H,q)=bS l [dO ops b8] (H1,T1,0):=by rw[ht,dj,hb];rfl
     refine Xj (sa l ops ps hl b8 rts H1 (T1,0) (abJ RU.le (abJ RU.len hl))) [.var [.ai (.val (.bool true)),.ai (.val (.int .i64 b8)),.ai (.val (.int .i64 rts))]] rfl (λe=>?_) (λH' T' e=>?_)
     .refine⟨⟨j+1,some (H1,T1)⟩,⟨bQ,hs.trans e⟩,(show an.length-(j+1)<an.length-j by omega),View.o2 6 [0,1,2,3,4] [] (Tm l ops ps H1 T1 6 _ [_])⟩
     .refine⟨⟨j+1,some (H',T')⟩,⟨bQ,hs.trans e⟩,(show an.length-(j+1)<an.length-j by omega),View.o2 7 [0,1,2,3,6] [] (afm l ops ps H' T' _ _ _ [] 7)⟩
    |false=>
     have hs:bS l (HW ops (an.take (j+1))) (H,q)=(H1,T1,0):=by rw[ht,dj,hb];rfl
     refine⟨⟨j+1,some (H1,T1)⟩,⟨bQ,hs⟩,(show an.length-(j+1)<an.length-j by omega),View.o2 6 [0,1,2,3,4] [] (Tm l ops ps H1 T1 6 _ [_])⟩
   .have rJ:j=an.length:=by have h:¬(j:Int)<((an.map dJ.enc).length:Int):=f4;rw[O9]at h;omega
    subst rJ;rw[abD]at hb;exact⟨.bG [],_,View.o 5 [0,1,2,3,4] [] (.eq rfl .nil) (Tm l ops ps H1 T1 5 _ []),rfl,.inr ⟨H1,T1,hb,rfl⟩⟩
theorem JU(l:List Obj)(ops:List aT)(ps:List aL)(hl:l.length<=4194304)(i3:∀p,p∈ps->p.an.length<=4194304)(p:Int)(H:List Nat)(q:List Nat×Nat)(hI:WI l.length (H,q)):ap prog 32 [.rv (.one (.ptr 2 0)),al .i64 p] (W4 l ops ps H q) (WP l ops ps (gd ops ps p) H q):=
 bK (aP func32 l32 (H0 l ops ps hl i3 p H q hI)) λr m1 hr=>hr
end Fe
end Go.Proofs.YtllkfpggoigbaaaGreatDoor
