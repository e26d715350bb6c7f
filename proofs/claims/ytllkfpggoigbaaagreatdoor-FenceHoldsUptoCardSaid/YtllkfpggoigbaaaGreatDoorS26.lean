/- Part 26 of 35. -/
import Derived.Test.YtllkfpggoigbaaaGreatDoorS15
import Derived.Test.YtllkfpggoigbaaaGreatDoorS16
import Derived.Test.YtllkfpggoigbaaaGreatDoorS25
set_option linter.unusedVariables false
set_option linter.unusedSimpArgs false
set_option linter.unnecessarySimpa false
set_option maxRecDepth 100000
set_option maxHeartbeats 0
namespace Go.Proofs.YtllkfpggoigbaaaGreatDoor
open Proofs.Tryz
open Go.AM Go.ChangeShapes Go.WideShapes Go.ChangeAt Go.RowKit
def c46:LF:=Cq prog Tryz.f46 [[3]] [[(d9 11 0 (.cons 11 (some []) .nil))],[d9 12 0 .nil],[(d9 8 0 (.zB (.cons 8 (some []) (d9 5 9 (.cons 14 (some [7,3]) (.cons 15 (some []) (d9 3 16 .nil))))) (.cons 14 (some [7,3]) (.cons 8 (some []) (d9 5 9 (.cons 15 (some []) (d9 3 16 .nil)))))))],[(d9 12 0 (.zB (.cons 12 (some []) (d9 3 13 (.cons 16 (some [11,7,3]) (.cons 17 (some []) (.cons 18 none .nil))))) (.cons 16 (some [11,7,3]) (.cons 12 (some []) (d9 3 13 (.cons 17 (some []) (.cons 18 none .nil)))))))]]
namespace Kn
def jy(ps:List aL)(p:Nat):Bool:=match ps[p]? with|some x=>x.fenced|none=>false
def kU(ps:List aL)(p:Nat):List aL:=match ps[p]? with|some x=>ps.set p {x with fenced:=true}|none=>ps
def HG(ps:List aL)(z:Int):Int:=match ps[z.toNat]? with|some x=>x.code|none=>0
def gI(k:Kr)(e:Kr×Int):Kr×An:=(if e.2=0 then e.1 else k,An.no e.2)
def rq(k:Kr)(f:Kr×Int×Int×Int):Kr×An:=if f.2.2.2≠0 then(k,An.no f.2.2.2)else(f.1,⟨0,f.2.1,f.2.2.1,[]⟩)
def rY(k:Kr)(c:Cl)(o:Obj):Kr×An:=
 if o.ah≠5 then(k,An.no 8)
 else if c.ah=21 then(if fa k.ps o.aQ=true then(k,An.no 16)else(k,⟨0,HG k.ps o.aQ,0,[]⟩))
 else gI k (gg k o.aQ 255)
def mq(k:Kr)(c:Cl)(w:(Int×Int)×Int×Int):Kr×An:=if w.2.2≠0 then(k,An.no w.2.2)else rY k c (j9 k.l w.2.1)
def fc(k:Kr)(p:Nat)(c:Cl):Kr×An:=
 if c.ah=1 then(⟨k.l,k.ops,kU k.ps p⟩,⟨0,0,0,[]⟩)
 else if c.ah=22 then(k,⟨0,if jy k.ps p=true then 1 else 0,0,[]⟩)
 else if c.ah=18 then rq k (jm k p)
 else if c.ah=19 then gI k (gg k p c.n)
 else mq k c (bC k p c.fd (if c.ah=20 then 2048 else 1024))
def rZ(x:Int):Prop:=x=1\/x=22\/x=18\/x=19\/x=20\/x=21
theorem l46:bs prog Tryz.f46=some c46.er:=by kernel_rfl
def aaJ:LC:=bi (bi (bi c46.code))
def aaK:LC:=l5 aaJ
theorem HH(k:Kr)(p:Nat)(hw:KW k p)(c:Cl)(need:Int)(hq:∀o,o∈k.l->o.ah=5->∃n:Nat,o.aQ=n/\n<k.ps.length):
  aw prog 2 aaK (QC c46.lM (mq k c (bC k p c.fd need)).1 p c (mq k c (bC k p c.fd need)).2)
   ⟨i5 195 [(0,.rv (.one (.ptr 0 0))),(1,.rv (.one (.ptr 1 0))),(4,.rv (.one (.ptr 2 0))),(11,al .i64 need)],[xB k p,cB c,ju]⟩:=by
 refine lC k p hw c.fd need 0 rfl ?_;have hh:= @KW.held k p hw c.fd need;generalize bC k p c.fd need=w at hh|-;obtain⟨⟨o,r⟩,b,e⟩:=w;refine bF (λhe=>?_) (λhe=>?_)
 .have he:e≠0:=he;rw[mq,if_pos he];exact dp (X:=[_,_])
 have he:e=0:=he;subst he;obtain⟨n,j,h1,h2,h3,h4,h5⟩:=hh rfl;have h3:b=j:=h3;subst h3;have e1:mq k c ((o,r),((j:Nat):Int),0)=rY k c k.l[j]:=by rw[mq,if_neg aD,uR h4]
 rw[e1];have VQ:=hq _ (aaR h4);have hg:=jr h4;generalize k.l[j]=ob at VQ hg|-;refine af hg ?_;refine bF (λh6=>?_) (λh6=>?_)
 .have h6:ob.ah≠5:=h6;rw[rY,if_pos h6];exact dp (X:=[_,_])
 have h6:ob.ah=5:=h6;rw[rY,if_neg (λh=>h h6)]
 obtain⟨q,Fv,Re⟩:=VQ h6;refine af hg ?_;refine ba (λh7=>?_) (λh7=>?_)
 .have h7:c.ah=21:=h7;rw[if_pos h7];refine pO k.l k.ops k.ps ob.aQ ?_;cases hl:fa k.ps ob.aQ with
  |true=>
   rw[if_pos rfl];exact dp (X:=[_,_])
  |false=>
   rw[if_neg aD];have hc:HG k.ps ob.aQ=k.ps[q].code:=by rw[HG,Fv,aal,wy Re]
   rw[hc];refine af (x:=[.val (.bool k.ps[q].aF),.val (.bool k.ps[q].fenced),.val (.int .i64 k.ps[q].code),gL k.ps[q].an]) (by rw[Fv];exact eK Re) ?_
   exact dp (X:=[_,_])
 .have h7:¬c.ah=21:=h7;rw[if_neg h7];refine Cg k hw.kr ob.aQ 255 ?_;generalize gg k ob.aQ 255=E;obtain⟨k2,e⟩:=E;refine ba (λhe=>?_) (λhe=>?_)
  .have he:e=0:=he;subst he;rw[gI,if_pos rfl];exact dp (X:=[_,_,_])
  .have he:¬e=0:=he;rw[gI,if_neg he];exact dp (X:=[_,_,_])
theorem EM{ps:List aL}{n:Nat}(hn:n<ps.length):aX (aa (ps.map aL.enc)) n ((aL.enc ⟨ps[n].aF,true,ps[n].code,ps[n].an⟩).map .ai)=aa ((kU ps n).map aL.enc):=by
 have:kU ps n=ps.set n {ps[n]with fenced:=true}:=by rw[kU,wy hn]
 rw[this,bh,aa,aa,abW,abW]
theorem EN(k:Kr)(p:Nat)(hw:KW k p)(c:Cl)(hc:c.ah=1):
  body prog c46 [.rv (.one (.ptr 0 0)),.rv (.one (.ptr 1 0))] [xB k p,cB c] (TC ⟨k.l,k.ops,kU k.ps p⟩ p c ⟨0,0,0,[]⟩):=by
 obtain⟨aQ,ah,fd,iy,n,bL,aZ,cG,data⟩:=c;have hc:ah=1:=hc;subst hc;refine jh k.l k.ops k.ps hw.oi hw.kr.lo hw.kr.lp hw.kr.sl hw.kr.ne ?_;refine af (ng hw.hp) ?_;refine af (bm aL.enc k.ps hw.hp) ?_;refine⟨trivial,_,_,View.o 6 [0,1] [3,4,5] (.put PJ .nil) (.pt rfl rfl (WU (k:=⟨k.l,k.ops,kU k.ps p⟩) (iW rfl rfl) (iW rfl rfl) (iW rfl (congrArg (λx=>some (Bk.row 4 x)) (EM hw.hp)))) (.pt rfl rfl (.eq rfl (pX _)) (.nil _))),rfl,rfl⟩
theorem HI(k:Kr)(p:Nat)(hw:KW k p)(c:Cl)(hc:c.ah=22):
  body prog c46 [.rv (.one (.ptr 0 0)),.rv (.one (.ptr 1 0))] [xB k p,cB c] (TC k p c ⟨0,if jy k.ps p=true then 1 else 0,0,[]⟩):=by
 obtain⟨aQ,ah,fd,iy,n,bL,aZ,cG,data⟩:=c;have hc:ah=22:=hc;subst hc;have hp:=hw.hp;have hf:jy k.ps p=k.ps[p].fenced:=by rw[jy,wy hp]
 rw[hf];refine af (eK hp) ?_;cases k.ps[p].fenced with
 |true=>exact dp (X:=[_])
 |false=>exact dp (X:=[_])
theorem HK(k:Kr)(p:Nat)(hw:KW k p)(c:Cl)(hc:c.ah=18):
  body prog c46 [.rv (.one (.ptr 0 0)),.rv (.one (.ptr 1 0))] [xB k p,cB c] (TC (rq k (jm k p)).1 p c (rq k (jm k p)).2):=by
 obtain⟨aQ,ah,fd,iy,n,bL,aZ,cG,data⟩:=c;have hc:ah=18:=hc;subst hc;have h40:k.l.length<=4194303:=by have:=hw.l40;omega
 refine⟨?_,?_⟩
 .refine Jt k hw.kr h40 p ?_;generalize jm k p=F;obtain⟨k2,ch,fd,e⟩:=F;refine⟨trivial,⟨rfl,rfl,trivial⟩,trivial,?_⟩;refine bF (λhe=>?_) (λhe=>?_)
  .have he:e≠0:=he;rw[rq,if_pos he];exact dp (X:=[_,_])
  .have he:¬e≠0:=λh=>h he
   rw[rq,if_neg he];exact dp (k:=k2) (X:=[_,_])
 .refine⟨⟨rfl,rfl,trivial⟩,?_⟩;refine Jt k hw.kr h40 p ?_;generalize jm k p=F;obtain⟨k2,ch,fd,e⟩:=F;refine⟨trivial,trivial,?_⟩;refine bF (λhe=>?_) (λhe=>?_)
  .have he:e≠0:=he;rw[rq,if_pos he];exact dp (X:=[_,_])
  .have he:¬e≠0:=λh=>h he
   rw[rq,if_neg he];exact dp (k:=k2) (X:=[_,_])
theorem HL(k:Kr)(p:Nat)(hw:KW k p)(c:Cl)(hc:c.ah=19):
  body prog c46 [.rv (.one (.ptr 0 0)),.rv (.one (.ptr 1 0))] [xB k p,cB c] (TC (gI k (gg k p c.n)).1 p c (gI k (gg k p c.n)).2):=by
 obtain⟨aQ,ah,fd,iy,n,bL,aZ,cG,data⟩:=c;have hc:ah=19:=hc;subst hc;show body prog c46 _ _ (TC (gI k (gg k p n)).1 p _ (gI k (gg k p n)).2);refine⟨?_,?_⟩
 .refine Cg k hw.kr p n ?_;generalize gg k p n=F;obtain⟨k2,e⟩:=F;refine⟨trivial,⟨rfl,rfl,rfl,trivial⟩,trivial,?_⟩;refine ba (λhe=>?_) (λhe=>?_)
  .have he:e=0:=he;rw[gI,if_pos he];exact dp (k:=k2) (X:=[_,_])
  .have he:¬e=0:=he;rw[gI,if_neg he];exact dp (X:=[_,_])
 .refine⟨⟨rfl,rfl,rfl,trivial⟩,?_⟩;refine Cg k hw.kr p n ?_;generalize gg k p n=F;obtain⟨k2,e⟩:=F;refine⟨trivial,trivial,?_⟩;refine ba (λhe=>?_) (λhe=>?_)
  .have he:e=0:=he;rw[gI,if_pos he];exact dp (k:=k2) (X:=[_,_])
  .have he:¬e=0:=he;rw[gI,if_neg he];exact dp (X:=[_,_])
theorem yX(k:Kr)(p:Nat)(hw:KW k p)(c:Cl)(hc:c.ah=20\/c.ah=21)(hq:∀o,o∈k.l->o.ah=5->∃n:Nat,o.aQ=n/\n<k.ps.length):
  body prog c46 [.rv (.one (.ptr 0 0)),.rv (.one (.ptr 1 0))] [xB k p,cB c] (TC (mq k c (bC k p c.fd (if c.ah=20 then 2048 else 1024))).1 p c (mq k c (bC k p c.fd (if c.ah=20 then 2048 else 1024))).2):=by
 have hs:=λneed=>HH k p hw c need hq
 obtain⟨aQ,ah,fd,iy,n,bL,aZ,cG,data⟩:=c;rcases hc with hc|hc
 .have hc:ah=20:=hc;subst hc;refine⟨_,View.o1 4 [0,1,2] [] ?_,hs 2048⟩
  .exact .au
 .have hc:ah=21:=hc;subst hc;refine⟨_,View.o1 4 [0,1,2] [] ?_,hs 1024⟩
  .exact .au
theorem ke(k:Kr)(p:Nat)(hw:KW k p)(c:Cl)(hc:rZ c.ah)(hq:∀o,o∈k.l->o.ah=5->∃n:Nat,o.aQ=n/\n<k.ps.length):
  ap prog 46 [.rv (.one (.ptr 0 0)),.rv (.one (.ptr 1 0))] [xB k p,cB c] (TC (fc k p c).1 p c (fc k p c).2):=by
 refine cE func46 l46 ?_;rcases hc with hc|hc|hc|hc|hc|hc
 .rw[fc,if_pos hc];exact EN k p hw c hc
 .rw[fc,if_neg om,if_pos hc];exact HI k p hw c hc
 .rw[fc,if_neg om,if_neg om,if_pos hc];exact HK k p hw c hc
 .rw[fc,if_neg om,if_neg om,if_neg om,if_pos hc];exact HL k p hw c hc
 .rw[fc,if_neg om,if_neg om,if_neg om,if_neg om];exact yX k p hw c (.inl hc) hq
 .rw[fc,if_neg om,if_neg om,if_neg om,if_neg om];exact yX k p hw c (.inr hc) hq
end Kn
def c105:LF:=Cq prog f105 [] []
def c137:LF:=Cq prog f137 [] []
structure eQ where
 op:Int
 jt:Int
 jf:Int
 k:Int
 deriving DecidableEq
def eQ.enc(i:eQ):List Dt:=[.val (.int .i64 i.op),.val (.int .i64 i.jt),.val (.int .i64 i.jf),.val (.int .i64 i.k)]
def eQ.cv(i:eQ):CV:= .rv (.agg (i.enc.map .ai))
def aaM(l:List eQ):Dt:= .sl 4 (l.map eQ.enc)
def tL(l:List eQ):CV:= .rv (.one (.ai (aaM l)))
def CH(f:Int×Int):CV:= .rv (.agg [.ai (.val (.int .i64 f.1)),.ai (.val (.int .i64 f.2))])
def o8(a n yY s:Int):Bool:=decide (n>=0)&&decide (n<=yY)&&decide (a+1+n<s)
theorem l137:bs prog f137=some c137:=by kernel_rfl
theorem Md(a n yY s:Int)(ha:0<=a)(Yp:a<=4194304)(hm:yY<=4194304):body prog c137 [al .i64 a,al .i64 n,al .i64 yY,al .i64 s] [] (λr m=>r=aq (o8 a n yY s)):=by
 refine aA (λh=>?_) (λh=>?_)
 .refine aA (λh2=>?_) (λh2=>?_)
  .have e1:n>=0:=of_decide_eq_true h;have e2:n<=yY:=of_decide_eq_true h2;show aq _=aq _;rw[o8,h,h2,iR (n:=a+1) om om,iR om om];rfl
  .show aq _=aq _;rw[o8,h,h2];rfl
 .show aq _=aq _;rw[o8,h];rfl
theorem S3(a n yY s:Int)(ha:0<=a)(Yp:a<=4194304)(hm:yY<=4194304){m:Mem}{K:CV->Mem->Prop}(h:K (aq (o8 a n yY s)) m):ap prog 137 [al .i64 a,al .i64 n,al .i64 yY,al .i64 s] m K:=
 bu func137 l137 rfl (aav rfl) (Md a n yY s ha Yp hm) rfl rfl h
def yZ(i:eQ):Int:=if(i.jt !=0)||(i.jf !=0)then 2 else 0
def i4(i:eQ)(a s:Int):Int:=
 if(i.op==1)then(if(decide (i.k<0)||decide (i.k>=6))then 3 else yZ i)
 else if(i.op==2)||(i.op==3)||(i.op==4)then(if(decide (i.k<0)||decide (i.k>=2147483648)|| !o8 a i.jt 40 s|| !o8 a i.jf 40 s)then 3 else 0)
 else if(i.op==5)then(if !o8 a i.k s s then 3 else yZ i)
 else if(i.op==6)then(if(i.k !=1)&&(i.k !=0)then 3 else yZ i)
 else 1
theorem l105:bs prog f105=some c105:=by kernel_rfl
theorem HM(i:eQ)(a s:Int)(ha:0<=a)(Yp:a<=4194304)(hs:s<=4194304):body prog c105 [i.cv,al .i64 a,al .i64 s] [] (λr m=>r=al .i64 (i4 i a s)):=by
 repeat' (first
  |(refine aA (λh=>?_) (λh=>?_))
  |(refine S3 _ _ _ _ ha Yp om ?_))
 all_goals(show al .i64 _=al .i64 _;refine congrArg _ ?_;simp only[i4,yZ, *];try(first|rfl|simp[*]))
theorem PX(i:eQ)(a s:Int)(ha:0<=a)(Yp:a<=4194304)(hs:s<=4194304){m:Mem}{K:CV->Mem->Prop}(h:K (al .i64 (i4 i a s)) m):ap prog 105 [i.cv,al .i64 a,al .i64 s] m K:=
 bu func105 l105 rfl (aav rfl) (HM i a s ha Yp hs) rfl rfl h
def c62:LF:=Cq prog f62 [] []
def wA(s:Int):Nat->List eQ->Int×Int
 |_,[]=>(0,0)
 |k,i::r=>if i4 i (k:Int) s=0 then wA s (k+1) r else(i4 i (k:Int) s,(k:Int))
theorem JL(s:Int):∀(l:List eQ)(k:Nat),(∀(j:Nat)i,l[j]? =some i->i4 i ((k+j:Nat):Int) s=0)->wA s k l=(0,0)
 | [],_,_=>rfl
 |i::r,k,h=>by
  rw[wA,if_pos (by simpa using h 0 i rfl)]
  exact JL s r (k+1) λj x hx=>by
   have:=h (j+1) x (by simpa using hx)
   rwa [show k+(j+1)=k+1+j by omega]at this
theorem EO(s:Int):∀(l:List eQ)(k j:Nat)(i:eQ),l[j]? =some i->(∀(j':Nat)i,j'<j->l[j']? =some i->i4 i ((k+j':Nat):Int) s=0)->i4 i ((k+j:Nat):Int) s≠0->wA s k l=(i4 i ((k+j:Nat):Int) s,((k+j:Nat):Int))
 | [],_,j,i,h,_,_=>by simp at h
 |x::r,k,0,i,h,_,hb=>by
  simp at h;subst h;rw[wA,if_neg (by simpa using hb)];rfl
 |x::r,k,j+1,i,h,hg,hb=>by
  rw[wA,if_pos (by simpa using hg 0 x om rfl)]
  rw[show k+(j+1)=k+1+j by omega]at hb|-
  exact EO s r (k+1) j i (by simpa using h) (λj' y hj hy=>by
   have:=hg (j'+1) y om (by simpa using hy)
   rwa [show k+(j'+1)=k+1+j' by omega]at this) hb
def nk(p:List eQ):Int×Int:=
 if p.length<1\/p.length>400 then(5,0)
 else if(wA p.length 0 p).1≠0 then wA p.length 0 p
 else match p[p.length-1]? with
  |some i=>if i.op=6 then(0,0)else(2,((p.length-1:Nat):Int))
  |none=>(0,0)
theorem l62:bs prog f62=some c62:=by kernel_rfl
theorem HN(p:List eQ):body prog c62 [tL p] [] (λr m=>r=CH (nk p)):=by
 refine aA (λh=>?_) (λh0=>?_)
 .have h:p.length<1:=by have h:(((p.map eQ.enc).length:Nat):Int)<1:=of_decide_eq_true h;rw[O9]at h;omega
  rw[nk,if_pos (.inl h)];exact rfl
 .refine aA (λh=>?_) (λh1=>?_)
  .have h:p.length>400:=by have h:(((p.map eQ.enc).length:Nat):Int)>400:=of_decide_eq_true h;simp at h;omega
   rw[nk,if_pos (.inr h)];exact rfl
  .have h0:¬p.length<1:=by have h:¬(((p.map eQ.enc).length:Nat):Int)<1:=of_decide_eq_false h0;rw[O9]at h;omega
   have h1:¬p.length>400:=by have h:¬(((p.map eQ.enc).length:Nat):Int)>400:=of_decide_eq_false h1;rw[O9]at h;omega
   have hc:nk p=if(wA p.length 0 p).1≠0 then wA p.length 0 p else match p[p.length-1]? with
     |some i=>if i.op=6 then(0,0)else(2,((p.length-1:Nat):Int))
     |none=>(0,0):=by rw[nk,if_neg om]
   refine xP (λk=>k<=p.length/\∀(j:Nat)i,j<k->p[j]? =some i->i4 i (j:Int) p.length=0) (λk=>[(17,al .i64 (k:Nat)),(3,.aH),(4,.aH),(5,.aH),(18,.aH),(19,.aH),(20,.aH),(21,.aH),(22,.aH),(23,.aH),(24,.aH),(25,.aH),(26,.aH),(27,.aH),(28,.aH),(32,.aH)])
    (λk=>[.var [.ai (.val (.int .i64 0)),.ai (.val (.int .i64 0))]]) (λk=>p.length-k) 0 ⟨WG _,λj i h=>absurd h (abE j)⟩ ?_ (λk hk=>?_)
   .refine View.o1 1 [0] [] ?_
    .exact .put (by simp[bc]) rfl (.eq rfl aD) (.nil _)
   .refine aA (λh=>?_) (λh=>?_)
    .have ax:k<p.length:=by have h:(k:Int)<((p.map eQ.enc).length:Int):=of_decide_eq_true h;rw[O9]at h;omega
     have hg:cm (p.map eQ.enc) (k:Nat)=some (p[k].enc):=by rw[aU,Qu,wy ax];rfl
     have hlen:(((p.map eQ.enc).length:Nat):Int)=(p.length:Int):=by rw[O9]
     refine af hg ?_;have vC:∀{m:Mem}{K:CV->Mem->Prop},K (al .i64 (i4 p[k] k p.length)) m->ap prog 105 [p[k].cv,al .i64 k,al .i64 (((p.map eQ.enc).length:Nat):Int)] m K:=by intro m K h;rw[hlen];exact PX _ _ _ om om om h
     refine vC ?_;refine aA (λh3=>?_) (λh3=>?_)
     .have h3:i4 p[k] k p.length≠0:=by simpa using h3
      have:=EO p.length p 0 k p[k] (wy ax) (λj i hj hi=>by simpa using hk.2 j i hj hi) (by simpa using h3)
      rw[abV]at this;rw[hc,this,if_pos h3];exact rfl
     .have h3:i4 p[k] k p.length=0:=by simpa using h3
      refine⟨k+1,⟨ax,λj i hj hi=>?_⟩,?_,View.o 2 [0] [] ?_ ?_⟩
      .rcases aax j k with h5|h5
       .exact hk.2 j i h5 hi
       .have:j=k:=om;subst this;rw[wy ax]at hi;cases hi;exact h3
      .show p.length-(k+1)<p.length-k;omega
      .repeat(first|exact .nil|refine .aH ?_|refine .put (.aN (br om).symm) ?_|refine .eq rfl ?_)
      .exact .put (by simp[bc]) rfl (.eq rfl aD) (.nil _)
    .have ef:¬(k:Int)<((p.map eQ.enc).length:Int):=of_decide_eq_false h;rw[O9]at ef;have gj:=JL p.length p 0 λj i hi=>by have:=(Lw.1 hi).1;simpa using hk.2 j i om hi
     rw[hc,gj,if_neg aD];have o4:p.length-1<p.length:=om;rw[wy o4];have hw:IntKind.i64.wrap ((((p.map eQ.enc).length:Nat):Int)-1)=((p.length-1:Nat):Int):=by rw[O9,iR om om];omega
     have hg:cm (p.map eQ.enc) (IntKind.i64.wrap ((((p.map eQ.enc).length:Nat):Int)-1))=some (p[p.length-1].enc):=by rw[hw,aU,Qu,wy o4];rfl
     refine af hg ?_;refine aA (λh3=>?_) (λh3=>?_)
     .have h3:p[p.length-1].op≠6:=by simpa using h3
      show CH (2,IntKind.i64.wrap ((((p.map eQ.enc).length:Nat):Int)-1))=_;rw[hw];simp only;rw[if_neg h3]
     .have h3:p[p.length-1].op=6:=by simpa using h3
      simp only;rw[if_pos h3];exact rfl
theorem PY(p:List eQ){m:Mem}{K:CV->Mem->Prop}(h:K (CH (nk p)) m):ap prog 62 [tL p] m K:=
 bu func62 l62 rfl (aav rfl) (HN p) rfl rfl h
theorem WX(jt jf k a s:Int):i4 ⟨1,jt,jf,k⟩ a s=if k<0\/k>=6 then 3 else if jt≠0\/jf≠0 then 2 else 0:=by simp[i4,yZ,<-Bool.decide_or]
theorem HO(o jt jf k a s:Int)(ho:o=2\/o=3\/o=4):i4 ⟨o,jt,jf,k⟩ a s=if k<0\/k>=2147483648\/jt<0\/jf<0\/jt>40\/jf>40\/jt>s-a-2\/jf>s-a-2 then 3 else 0:=by
 have h1:(o==1)=false:=by rcases ho with rfl|rfl|rfl<;>rfl
 have h2:((o==2)||(o==3)||(o==4))=true:=by rcases ho with rfl|rfl|rfl<;>rfl
 simp only[i4,h1,h2,acj,if_false,if_true];by_cases hc:k<0\/k>=2147483648\/jt<0\/jf<0\/jt>40\/jf>40\/jt>s-a-2\/jf>s-a-2
 .rw[if_pos hc,if_pos];simp only[o8,acp,aco,aeb,decide_eq_true_eq,decide_eq_false_iff_not];omega
 .rw[if_neg hc,if_neg];simp only[o8,acp,aco,aeb,decide_eq_true_eq,decide_eq_false_iff_not];omega
theorem WY(jt jf k a s:Int)(ha:0<=a):i4 ⟨5,jt,jf,k⟩ a s=if k<0\/k>s-a-2 then 3 else if jt≠0\/jf≠0 then 2 else 0:=by
 have e:(!o8 a k s s)=decide (k<0\/k>s-a-2):=by rw[afj];simp only[o8,aco,aeb,decide_eq_true_eq,decide_eq_false_iff_not];omega
 simp[i4,e,yZ,<-Bool.decide_or]
theorem WZ(jt jf k a s:Int):i4 ⟨6,jt,jf,k⟩ a s=if k≠0/\k≠1 then 3 else if jt≠0\/jf≠0 then 2 else 0:=by simp[i4,yZ,<-Bool.decide_or,<-Bool.decide_and];simp only[and_comm]
theorem W0(o jt jf k a s:Int)(ho:o<1\/o>6):i4 ⟨o,jt,jf,k⟩ a s=1:=by
 have h:∀c:Int,1<=c->c<=6->(o==c)=false:=λc h1 h2=>by rw[beq_eq_false_iff_ne];omega
 simp[i4,h 1 om om,h 2 om om,h 3 om om,h 4 om om,h 5 om om,h 6 om om]
def c36:LF:=Cq prog f36 [] []
structure Ba where
 r0:Int
 r1:Int
 r2:Int
 r3:Int
 r4:Int
 r5:Int
def Ba.enc(r:Ba):List Dt:=[.val (.int .i64 r.r0),.val (.int .i64 r.r1),.val (.int .i64 r.r2),.val (.int .i64 r.r3),.val (.int .i64 r.r4),.val (.int .i64 r.r5)]
def Ba.cv(r:Ba):CV:= .rv (.agg (r.enc.map .ai))
def Ba.get(r:Ba):Nat->Int
 |0=>r.r0
 |1=>r.r1
 |2=>r.r2
 |3=>r.r3
 |4=>r.r4
 |_=>r.r5
theorem Ba.afb(r:Ba){k:Nat}(h:k<6):jI (r.enc.map .ai) (0+k*1) 1=some [.ai (.val (.int .i64 (r.get k)))]:=by
 rw[show 0+k*1=k by omega]
 apply AL
 match k,h with
 |0,_=>rfl
 |1,_=>rfl
 |2,_=>rfl
 |3,_=>rfl
 |4,_=>rfl
 |5,_=>rfl
def W6(a b:Int):Int:=IntKind.i64.wrap ((BitVec.ofInt 64 a&&&BitVec.ofInt 64 b).toNat:Int)
def zW(i:eQ)(dz:Int)(r:Ba):Nat×Int:=
 if i.op=1 then(1,r.get i.k.toNat)
 else if i.op=5 then(1+i.k.toNat,dz)
 else if(if i.op=2 then dz==i.k else if i.op=3 then decide (dz>=i.k)else if i.op=4 then W6 dz i.k !=0 else false)=true then(1+i.jt.toNat,dz)
 else(1+i.jf.toNat,dz)
theorem Vd(x y:Nat)(k dz:Int)(r:Ba):(dz=k->zW ⟨2,x,y,k⟩ dz r=(1+x,dz))/\(dz≠k->zW ⟨2,x,y,k⟩ dz r=(1+y,dz)):=
 ⟨λh=>by subst h;simp[zW],λh=>by simp[zW,h]⟩
theorem Ve(x y:Nat)(k dz:Int)(r:Ba):(dz>=k->zW ⟨3,x,y,k⟩ dz r=(1+x,dz))/\(¬dz>=k->zW ⟨3,x,y,k⟩ dz r=(1+y,dz)):=
 ⟨λh=>by simp[zW];omega,λh=>by simp[zW];omega⟩
theorem Vf(x y:Nat)(k dz:Int)(r:Ba):(W6 dz k≠0->zW ⟨4,x,y,k⟩ dz r=(1+x,dz))/\(W6 dz k=0->zW ⟨4,x,y,k⟩ dz r=(1+y,dz)):=
 ⟨λh=>by simp[zW,h],λh=>by simp[zW,h]⟩
theorem S4(i:eQ)(dz:Int)(r:Ba):1<=(zW i dz r).1:=by
 unfold zW;repeat' split
 all_goals simp
def kg(p:List eQ)(r:Ba)(a:Nat)(dz:Int):Int×Int:=
 if h:a<p.length then
  if p[a].op=6 then(p[a].k,1)
  else((kg p r (a+(zW p[a] dz r).1) (zW p[a] dz r).2).1,(kg p r (a+(zW p[a] dz r).1) (zW p[a] dz r).2).2+1)
 else(0,0)
 termination_by p.length-a
 decreasing_by
 all_goals
  have:=S4 p[a] dz r;omega
theorem Me{p:List eQ}{r:Ba}{a:Nat}{dz:Int}{i:eQ}(h:p[a]? =some i)(ho:i.op=6):kg p r a dz=(i.k,1):=by obtain⟨ax,rfl⟩:=Lw.1 h;rw[kg,dif_pos ax,if_pos ho]
theorem m6{p:List eQ}{r:Ba}{a:Nat}{dz:Int}{i:eQ}(h:p[a]? =some i)(ho:i.op≠6){d:Nat}{CI:Int}(hn:zW i dz r=(d,CI)):kg p r a dz=((kg p r (a+d) CI).1,(kg p r (a+d) CI).2+1):=by obtain⟨ax,rfl⟩:=Lw.1 h;rw[kg,dif_pos ax,if_neg ho,hn]
theorem EP(s:Int):∀(l:List eQ)(k:Nat),(wA s k l).1=0->∀(j:Nat)i,l[j]? =some i->i4 i ((k+j:Nat):Int) s=0
 | [],_,_,j,i,h=>by simp at h
 |x::r,k,h,j,i,hi=>by
  simp only[wA]at h;split at h
  .rename_i h0;cases j with
   |zero=>simp at hi;subst hi;simpa using h0
   |succ j=>
    have:=EP s r (k+1) h j i (by simpa using hi)
    rwa [show k+1+j=k+(j+1) by omega]at this
  .rename_i h0;exact absurd h h0
theorem Bb{p:List eQ}(h:(nk p).1=0):1<=p.length/\p.length<=400/\(∀(j:Nat)i,p[j]? =some i->i4 i (j:Int) p.length=0)/\∃i,p[p.length-1]? =some i/\i.op=6:=by
 unfold nk at h;split at h
 .simp at h
 .rename_i hl;split at h
  .rename_i hc;exact absurd h hc
  .rename_i hc;have gj:=EP p.length p 0 (by simpa using hc)
   refine⟨om,om,λj i hi=>by simpa using gj j i hi,?_⟩
   have ax:p.length-1<p.length:=om;rw[wy ax]at h|-;simp only at h;split at h
   .rename_i h6;exact⟨_,rfl,h6⟩
   .simp at h
theorem S5{i:eQ}{a s:Int}(h:i4 i a s=0):i.op=1\/i.op=2\/i.op=3\/i.op=4\/i.op=5\/i.op=6:=by
 by_cases ho:i.op<1\/i.op>6
 .have:=W0 i.op i.jt i.jf i.k a s ho;have e:i4 ⟨i.op,i.jt,i.jf,i.k⟩ a s=i4 i a s:=rfl;omega
 .omega
theorem Mf{p:List eQ}(h:(nk p).1=0){a:Nat}{o jt jf k:Int}(hi:p[a]? =some ⟨o,jt,jf,k⟩):
  (o=1/\0<=k/\k<6/\a+1<p.length)\/((o=2\/o=3\/o=4)/\0<=jt/\0<=jf/\a+1+jt.toNat<p.length/\a+1+jf.toNat<p.length/\jt<=40/\jf<=40)\/(o=5/\0<=k/\a+1+k.toNat<p.length)\/(o=6/\(k=0\/k=1)):=by
 obtain⟨h1,h2,h3,i6,h4,h5⟩:=Bb h;have he:=h3 a _ hi;have ax:=(Lw.1 hi).1;rcases S5 he with ho|ho|ho|ho|ho|ho<;>simp only at ho<;>subst ho
 .rw[WX]at he;have fG:a≠p.length-1:=λe=>by rw[<-e,hi]at h4;cases h4;simp at h5
  split at he
  .simp at he
  .exact .inl ⟨rfl,om,om,om⟩
 .rw[HO _ _ _ _ _ _ om]at he;split at he
  .simp at he
  .exact .inr (.inl ⟨om,om,om,om,om,om,om⟩)
 .rw[HO _ _ _ _ _ _ om]at he;split at he
  .simp at he
  .exact .inr (.inl ⟨om,om,om,om,om,om,om⟩)
 .rw[HO _ _ _ _ _ _ om]at he;split at he
  .simp at he
  .exact .inr (.inl ⟨om,om,om,om,om,om,om⟩)
 .rw[WY _ _ _ _ _ om]at he;split at he
  .simp at he
  .exact .inr (.inr (.inl ⟨rfl,om,om⟩))
 .rw[WZ]at he;split at he
  .simp at he
  .exact .inr (.inr (.inr ⟨rfl,om⟩))
def zX(p:List eQ)(r:Ba):Int×Int:=if(nk p).1=0 then kg p r 0 0 else(0,0)
theorem l36:bs prog f36=some c36:=by kernel_rfl
def Vg(x:Int×Int):CV:= .bG [cK x.1,cK x.2]
theorem W7{s:Nat}(h:s<9223372036854775807):((s+1:Nat):Int)=IntKind.i64.wrap ((s:Int)+1):=by
 rw[show(s:Int)+1=((s+1:Nat):Int) by omega,lW om]
theorem PZ(p:List eQ)(r:Ba):body prog c36 [tL p,r.cv] [] (λx m=>x=Vg (zX p r)):=by
 refine PY p ?_;refine bF (λh=>?_) (λh=>?_)
 .have e:zX p r=(0,0):=by rw[zX,if_neg h]
  rw[e];exact rfl
 .have e:zX p r=kg p r 0 0:=by rw[zX,if_pos h]
  rw[e];obtain⟨g1,g2,g3,_⟩:=Bb h;refine xP (α:=Nat×Int×Nat) (λx=>x.1<p.length/\x.2.2<=x.1/\(kg p r x.1 x.2.1).1=(kg p r 0 0).1/\(kg p r x.1 x.2.1).2+x.2.2=(kg p r 0 0).2)
   (λx=>[(8,al .i64 (x.1:Nat)),(7,al .i64 x.2.1),(5,al .i64 (x.2.2:Nat)),(6,.aH),(9,.aH),(10,.aH),(11,.aH),(12,.aH),(13,.aH),(14,.aH),(15,.aH),(16,.aH),(17,.aH),(18,.aH),(19,.aH),(20,.aH),(21,.aH),(22,.aH),(23,.aH),(24,.aH),(25,.aH),(26,.aH),(27,.aH),(28,.aH),(29,.aH),(30,.aH),(31,.aH),(32,.aH),(33,.aH),(34,.aH),(35,.aH),(36,.aH),(37,.aH),(38,.aH),(39,.aH),(40,.aH),(41,.aH),(42,.aH),(43,.aH),(44,.aH),(45,.aH),(46,.aH),(47,.aH),(48,.aH),(49,.aH),(50,.aH),(51,.aH),(52,.aH),(53,.aH),(54,.aH),(55,.aH),(56,.aH),(57,.aH),(58,.aH),(59,.aH),(60,.aH),(61,.aH),(62,.aH),(63,.aH),(64,.aH),(65,.aH),(66,.aH),(67,.aH),(68,.aH),(69,.aH),(70,.aH),(71,.aH),(72,.aH),(73,.aH),(74,.aH)])
   (λx=>[.var (r.enc.map .ai)]) (λx=>p.length-x.1) (0,0,0) ⟨by show 0<p.length;omega,aai 0,rfl,aD⟩ ?_ (λx hJ=>?_)
  .refine View.o1 2 [0] [] ?_
   .exact .put (by simp[bc]) rfl (.eq rfl aD) (.nil _)
  .obtain⟨a,dz,s⟩:=x;obtain⟨ax,Fz,C7,vX⟩:=hJ;have ax:a<p.length:=ax;have Fz:s<=a:=Fz;have C7:(kg p r a dz).1=(kg p r 0 0).1:=C7;have vX:(kg p r a dz).2+s=(kg p r 0 0).2:=vX;have hi:=wy ax;generalize p[a]=i at hi;obtain⟨o,jt,jf,k⟩:=i;have hg:cm (p.map eQ.enc) (a:Nat)=some [.val (.int .i64 o),.val (.int .i64 jt),.val (.int .i64 jf),.val (.int .i64 k)]:=by rw[aU,Qu,hi];rfl
   have next:∀(d:Nat)(CI:Int),kg p r a dz=((kg p r (a+d) CI).1,(kg p r (a+d) CI).2+1)->(1<=d/\a+d<p.length)->∀{G:Prop},
     (((a+d<p.length)/\s+1<=a+d/\(kg p r (a+d) CI).1=(kg p r 0 0).1/\(kg p r (a+d) CI).2+((s+1:Nat):Int)=(kg p r 0 0).2)->(p.length-(a+d)<p.length-a)->G)->G:=by
    intro d CI hw hd G hG;refine hG ⟨hd.2,om,?_,?_⟩ om
    .rw[<-C7,hw]
    .rw[<-vX,hw];simp only;omega
   refine af hg ?_;rcases Mf h hi with⟨rfl,k1,k2,k3⟩|⟨ho,j1,j2,j3,j4,j5,j6⟩|⟨rfl,k1,k2⟩|⟨rfl,k1⟩
   .obtain⟨n,rfl⟩:∃n:Nat,k=n:=⟨k.toNat,om⟩;refine af (bJ om) ?_;refine af (r.afb om) ?_;refine next 1 (r.get n) (m6 hi aD (by simp[zW])) om (λhJ hm=>?_)
    exact⟨(a+1,r.get n,s+1),hJ,hm,View.o 2 [0] [] (by
     repeat(first|exact .nil|refine .aH ?_|refine .put (.aN (br om).symm) ?_|refine .eq rfl ?_|refine .eq (congrArg (λx=>al .i64 x) ((by rw[lW (n:=a+1) om]:((a+1:Nat):Int)=_))) ?_)) (.put (by simp[bc]) rfl (.eq rfl aD) (.nil _))⟩
   .obtain⟨x,rfl⟩:∃n:Nat,jt=n:=⟨jt.toNat,om⟩;obtain⟨y,rfl⟩:∃n:Nat,jf=n:=⟨jf.toNat,om⟩;have ex:IntKind.i64.wrap ((a:Int)+IntKind.i64.wrap (1+(x:Int)))=((a+(1+x):Nat):Int):=by rw[iR (n:=1+(x:Int)) om om,iR om om];omega
    have ey:IntKind.i64.wrap ((a:Int)+IntKind.i64.wrap (1+(y:Int)))=((a+(1+y):Nat):Int):=by rw[iR (n:=1+(y:Int)) om om,iR om om];omega
    rcases ho with rfl|rfl|rfl
    .refine ba (λhy=>?_) (λhy=>?_)
     .skip
      refine next (1+x) dz (m6 hi aD ((Vd x y k dz r).1 hy)) om (λhJ hm=>?_)
      exact⟨(a+(1+x),dz,s+1),hJ,hm,View.o 2 [0] [] (by
       repeat(first|exact .nil|refine .aH ?_|refine .put (.aN (br om).symm) ?_|refine .eq rfl ?_|refine .eq (congrArg (λx=>al .i64 x) (ex.symm)) ?_)) (.put (by simp[bc]) rfl (.eq rfl aD) (.nil _))⟩
     .skip
      refine next (1+y) dz (m6 hi aD ((Vd x y k dz r).2 hy)) om (λhJ hm=>?_)
      exact⟨(a+(1+y),dz,s+1),hJ,hm,View.o 2 [0] [] (by
       repeat(first|exact .nil|refine .aH ?_|refine .put (.aN (br om).symm) ?_|refine .eq rfl ?_|refine .eq (congrArg (λx=>al .i64 x) (ey.symm)) ?_)) (.put (by simp[bc]) rfl (.eq rfl aD) (.nil _))⟩
    .refine am (λhy=>?_) (λhy=>?_)
     .skip
      refine next (1+x) dz (m6 hi aD ((Ve x y k dz r).1 hy)) om (λhJ hm=>?_)
      exact⟨(a+(1+x),dz,s+1),hJ,hm,View.o 2 [0] [] (by
       repeat(first|exact .nil|refine .aH ?_|refine .put (.aN (br om).symm) ?_|refine .eq rfl ?_|refine .eq (congrArg (λx=>al .i64 x) (ex.symm)) ?_)) (.put (by simp[bc]) rfl (.eq rfl aD) (.nil _))⟩
     .skip
      refine next (1+y) dz (m6 hi aD ((Ve x y k dz r).2 hy)) om (λhJ hm=>?_)
      exact⟨(a+(1+y),dz,s+1),hJ,hm,View.o 2 [0] [] (by
       repeat(first|exact .nil|refine .aH ?_|refine .put (.aN (br om).symm) ?_|refine .eq rfl ?_|refine .eq (congrArg (λx=>al .i64 x) (ey.symm)) ?_)) (.put (by simp[bc]) rfl (.eq rfl aD) (.nil _))⟩
    .refine bF (λhy=>?_) (λhy=>?_)
     .skip
      refine next (1+x) dz (m6 hi aD ((Vf x y k dz r).1 hy)) om (λhJ hm=>?_)
      exact⟨(a+(1+x),dz,s+1),hJ,hm,View.o 2 [0] [] (by
       repeat(first|exact .nil|refine .aH ?_|refine .put (.aN (br om).symm) ?_|refine .eq rfl ?_|refine .eq (congrArg (λx=>al .i64 x) (ex.symm)) ?_)) (.put (by simp[bc]) rfl (.eq rfl aD) (.nil _))⟩
     .skip
      refine next (1+y) dz (m6 hi aD ((Vf x y k dz r).2 hy)) om (λhJ hm=>?_)
      exact⟨(a+(1+y),dz,s+1),hJ,hm,View.o 2 [0] [] (by
       repeat(first|exact .nil|refine .aH ?_|refine .put (.aN (br om).symm) ?_|refine .eq rfl ?_|refine .eq (congrArg (λx=>al .i64 x) (ey.symm)) ?_)) (.put (by simp[bc]) rfl (.eq rfl aD) (.nil _))⟩
   .obtain⟨n,rfl⟩:∃n:Nat,k=n:=⟨k.toNat,om⟩;have ex:IntKind.i64.wrap ((a:Int)+IntKind.i64.wrap (1+(n:Int)))=((a+(1+n):Nat):Int):=by rw[iR (n:=1+(n:Int)) om om,iR om om];omega
    refine next (1+n) dz (m6 hi aD (by simp[zW])) om (λhJ hm=>?_)
    exact⟨(a+(1+n),dz,s+1),hJ,hm,View.o 2 [0] [] (by
     repeat(first|exact .nil|refine .aH ?_|refine .put (.aN (br om).symm) ?_|refine .eq rfl ?_|refine .eq (congrArg (λx=>al .i64 x) (ex.symm)) ?_)) (.put (by simp[bc]) rfl (.eq rfl aD) (.nil _))⟩
   .have hb:kg p r a dz=(k,1):=Me hi rfl;rw[hb]at C7 vX;show CV.bG [cK k,cK (IntKind.i64.wrap ((s:Int)+1))]=_;rw[<-W7 (s:=s) om];have e2:kg p r 0 0=(k,((s+1:Nat):Int)):=Prod.ext C7.symm (by rw[<-vX];simp only;omega)
    rw[e2];rfl
theorem W8(p:List eQ)(r:Ba){m:Mem}{K:CV->Mem->Prop}(h:K (Vg (zX p r)) m):ap prog 36 [tL p,r.cv] m K:=
 bu func36 l36 rfl (aav rfl) (PZ p r) rfl rfl h
def c12:LF:=Cq prog f12 [[2],[2,1],[2,1,3]] [[(d9 4 0 (.cons 4 (some [2]) (.cons 5 (some []) .nil)))],[(d9 4 0 (.cons 5 none (.cons 4 (some [5]) (.cons 6 (some [5]) (.cons 7 (some []) .nil)))))]]
def c37:LF:=Cq prog f37 [] []
namespace Kn
def sB(a:Int):Int:=mH a 2147483647
def oS(c:Cl):Ba:=⟨sB c.ah,sB c.fd,sB c.iy,sB c.n,sB c.bL,sB c.aZ⟩
def gM(k:Kr)(p:Nat)(c:Cl):Kr×An:=
 if c.ah=2\/c.ah=3 then gX k p c
 else if c.ah=4\/c.ah=5\/c.ah=6 then gY k p c
 else if c.ah=7\/c.ah=8\/c.ah=9 then n9 k p c
 else if c.ah=10\/c.ah=11 then ml k p c
 else if c.ah=12\/c.ah=13\/c.ah=14 then jM k p c
 else if c.ah=15 then jx k p
 else if c.ah=16 then jv k p c
 else if c.ah=17 then jw k p c
 else fc k p c
def Rl(k:Kr)(x:Kr×An):Kr×An:=if x.2.gz≠0 then(k,An.no x.2.gz)else(eC x.1,x.2)
def np(prog:List eQ)(k:Kr)(c:Cl):Kr×An:=
 if fa k.ps c.aQ=false then(k,An.no 6)
 else if c.ah<1\/c.ah>22 then(k,An.no 1)
 else if jy k.ps c.aQ.toNat=true/\((zX prog (oS c)).1≠1\/c.ah=2)then(k,An.no 9)
 else Rl k (gM k c.aQ.toNat c)
structure P0(k:Kr)(p:Nat)(c:Cl):Prop where
 w:KW k p
 op:∀aB aC,Hs k p c (fb k aB c.cG aC true)
 pr:WW k p (eV k.l)
 q:∀o,o∈k.l->o.ah=5->∃n:Nat,o.aQ=n/\n<k.ps.length
 gu:(gM k p c).2.gz=0->dV (gM k p c).1.l (gM k p c).1.ops (gM k p c).1.ps
theorem l37:bs prog f37=some c37:=by kernel_rfl
theorem Mg(c:Cl){m:Mem}{K:CV->Mem->Prop}(h:K (oS c).cv m):ap prog 37 [c.cv] m K:=
 bu func37 l37 rfl (aav rfl) (show body prog c37 [c.cv] [] (λr m=>r=(oS c).cv)from rfl) rfl rfl h
theorem l12:bs prog f12=some c12.er:=by kernel_rfl
def afc:LC:=bi (bi c12.code)
def aaN:LC:=l5 afc
def afd:LC:=bi aaN
def aaO:LC:=l5 afd
def aaP:LC:=bi (bi (bi aaO))
def aaQ:LC:=l5 aaP
def doR(x:Kr×An):CV:= .bG [kK x.1,x.2.rv]
def QD(x:Kr×An):Ex->St->Prop:=nu prog c12.lM (λr m=>cH m r (doR x))
def z3B:Bk:= .var [.bt,.bt,.bt]
theorem Bc{m:Mem}{k:Kr}{e n x:Int}:cH m (.bG [kK k,.agg [.ai (.val (.int .i64 e)),.ai (.val (.int .i64 n)),.ai (.val (.int .i64 x)),.bt]]) (doR (k,⟨e,n,x,[]⟩)):=by
 refine .bG rfl λi r r' h1 h2=>?_
 match i,h1,h2 with
 |0,h1,h2=>cases h1;cases h2;exact dE.self rfl
 |1,h1,h2=>
  cases h1;cases h2;refine .agg rfl λi c c' h1 h2=>?_
  match i,h1,h2 with
  |0,h1,h2=>cases h1;cases h2;exact .self rfl
  |1,h1,h2=>cases h1;cases h2;exact .self rfl
  |2,h1,h2=>cases h1;cases h2;exact .self rfl
  |3,h1,h2=>cases h1;cases h2;exact .bt 1
  |n+4,h1,h2=>simp at h1
 |n+2,h1,h2=>simp at h1
theorem S6(k:Kr)(p:Nat)(c:Cl)(x:Kr×An)(hx:x.2.gz=0->dV x.1.l x.1.ops x.1.ps):
  aw prog 0 aaQ (QD (Rl k x))
   ⟨i5 116 [(4,.rv (.one (.ptr 0 0))),(6,.rv (.one (.ptr 1 0))),(7,.rv (.one (.ptr 2 0))),(10,.rv (.one (.ptr 3 0))),(11,.rv (.one (.ptr 4 0)))],[kB k,z3B,ju,xB x.1 p,.var (x.2.enc.map .ai)]⟩:=by
 obtain⟨k',⟨gz,n,mm,data⟩⟩:=x;refine bF (λhe=>?_) (λhe=>?_)
 .have he:gz≠0:=he;rw[Rl,if_pos he];refine⟨⟨rfl,trivial⟩,trivial,?_⟩;exact Bc
 .have he:gz=0:=he;subst he;rw[Rl,if_neg aD];refine Lo k' (hx rfl) ?_;refine⟨⟨rfl,trivial⟩,⟨rfl,trivial⟩,trivial,?_⟩;exact cH.self rfl
theorem W9(k:Kr)(p:Nat)(cZ:p<k.ps.length)(c:Cl)(hc:c.aQ=p)(hk:¬(c.ah<1\/c.ah>22))(hi:P0 k p c)(hd:c.data.length<=4194304):
  aw prog 0 aaO (QD (Rl k (gM k p c)))
   ⟨i5 116 [(4,.rv (.one (.ptr 0 0))),(5,.rv (.one (.ptr 1 0))),(6,.rv (.one (.ptr 2 0))),(7,.rv (.one (.ptr 3 0)))],[kB k,cB c,z3B,ju]⟩:=by
 have hs:=λ(x:Kr×An)(h:gM k p c=x)=>S6 k p c x (by rw[<-h];exact hi.gu)
 obtain⟨aQ,ah,fd,iy,n,bL,aZ,cG,data⟩:=c;have hc:aQ=(p:Nat):=hc;subst hc;have hr:ah=1\/ah=2\/ah=3\/ah=4\/ah=5\/ah=6\/ah=7\/ah=8\/ah=9\/ah=10\/ah=11\/ah=12\/ah=13\/ah=14\/ah=15\/ah=16\/ah=17\/ah=18\/ah=19\/ah=20\/ah=21\/ah=22:=by have hk:¬(ah<1\/ah>22):=hk;omega
 rcases hr with h|h|h|h|h|h|h|h|h|h|h|h|h|h|h|h|h|h|h|h|h|h
 .subst h;have eD:gM k p ⟨(p:Nat),1,fd,iy,n,bL,aZ,cG,data⟩=fc k p ⟨(p:Nat),1,fd,iy,n,bL,aZ,cG,data⟩:=by rw[gM,if_neg aD,if_neg aD,if_neg aD,if_neg aD,if_neg aD,if_neg aD,if_neg aD,if_neg aD]
  rw[eD];refine dX (ke k p hi.w _ (by simp[rZ]) hi.q) 4 1 rfl rfl rfl rfl ?_
  refine⟨_,View.o1 6 [0,2,3,4,5] [] ?_,hs _ eD⟩
  .exact .au
 .subst h;have eD:gM k p ⟨(p:Nat),2,fd,iy,n,bL,aZ,cG,data⟩=gX k p ⟨(p:Nat),2,fd,iy,n,bL,aZ,cG,data⟩:=by rw[gM,if_pos aD]
  rw[eD];refine dX (A8 k p hi.w _ hi.op) 4 1 rfl rfl rfl rfl ?_;refine⟨_,View.o1 6 [0,2,3,4,5] [] ?_,hs _ eD⟩
  .exact .au
 .subst h;have eD:gM k p ⟨(p:Nat),3,fd,iy,n,bL,aZ,cG,data⟩=gX k p ⟨(p:Nat),3,fd,iy,n,bL,aZ,cG,data⟩:=by rw[gM,if_pos aD]
  rw[eD];refine dX (A8 k p hi.w _ hi.op) 4 1 rfl rfl rfl rfl ?_;refine⟨_,View.o1 6 [0,2,3,4,5] [] ?_,hs _ eD⟩
  .exact .au
 .subst h;have eD:gM k p ⟨(p:Nat),4,fd,iy,n,bL,aZ,cG,data⟩=gY k p ⟨(p:Nat),4,fd,iy,n,bL,aZ,cG,data⟩:=by rw[gM,if_neg aD,if_pos aD]
  rw[eD];refine dX (rX k p hi.w _ (.inl rfl) hd) 4 1 rfl rfl rfl rfl ?_;refine⟨_,View.o1 6 [0,2,3,4,5] [] ?_,hs _ eD⟩
  .exact .au
 .subst h;have eD:gM k p ⟨(p:Nat),5,fd,iy,n,bL,aZ,cG,data⟩=gY k p ⟨(p:Nat),5,fd,iy,n,bL,aZ,cG,data⟩:=by rw[gM,if_neg aD,if_pos aD]
  rw[eD];refine dX (rX k p hi.w _ (.inr (.inl rfl)) hd) 4 1 rfl rfl rfl rfl ?_;refine⟨_,View.o1 6 [0,2,3,4,5] [] ?_,hs _ eD⟩
  .exact .au
 .subst h;have eD:gM k p ⟨(p:Nat),6,fd,iy,n,bL,aZ,cG,data⟩=gY k p ⟨(p:Nat),6,fd,iy,n,bL,aZ,cG,data⟩:=by rw[gM,if_neg aD,if_pos aD]
  rw[eD];refine dX (rX k p hi.w _ (.inr (.inr rfl)) hd) 4 1 rfl rfl rfl rfl ?_;refine⟨_,View.o1 6 [0,2,3,4,5] [] ?_,hs _ eD⟩
  .exact .au
 .subst h;have eD:gM k p ⟨(p:Nat),7,fd,iy,n,bL,aZ,cG,data⟩=n9 k p ⟨(p:Nat),7,fd,iy,n,bL,aZ,cG,data⟩:=by rw[gM,if_neg aD,if_neg aD,if_pos aD]
  rw[eD];refine dX (uS k p hi.w _) 4 1 rfl rfl rfl rfl ?_;refine⟨_,View.o1 6 [0,2,3,4,5] [] ?_,hs _ eD⟩
  .exact .au
 .subst h;have eD:gM k p ⟨(p:Nat),8,fd,iy,n,bL,aZ,cG,data⟩=n9 k p ⟨(p:Nat),8,fd,iy,n,bL,aZ,cG,data⟩:=by rw[gM,if_neg aD,if_neg aD,if_pos aD]
  rw[eD];refine dX (uS k p hi.w _) 4 1 rfl rfl rfl rfl ?_;refine⟨_,View.o1 6 [0,2,3,4,5] [] ?_,hs _ eD⟩
  .exact .au
 .subst h;have eD:gM k p ⟨(p:Nat),9,fd,iy,n,bL,aZ,cG,data⟩=n9 k p ⟨(p:Nat),9,fd,iy,n,bL,aZ,cG,data⟩:=by rw[gM,if_neg aD,if_neg aD,if_pos aD]
  rw[eD];refine dX (uS k p hi.w _) 4 1 rfl rfl rfl rfl ?_;refine⟨_,View.o1 6 [0,2,3,4,5] [] ?_,hs _ eD⟩
  .exact .au
 .subst h;have eD:gM k p ⟨(p:Nat),10,fd,iy,n,bL,aZ,cG,data⟩=ml k p ⟨(p:Nat),10,fd,iy,n,bL,aZ,cG,data⟩:=by rw[gM,if_neg aD,if_neg aD,if_neg aD,if_pos aD]
  rw[eD];refine dX (yQ k p hi.w _) 4 1 rfl rfl rfl rfl ?_;refine⟨_,View.o1 6 [0,2,3,4,5] [] ?_,hs _ eD⟩
  .exact .au
 .subst h;have eD:gM k p ⟨(p:Nat),11,fd,iy,n,bL,aZ,cG,data⟩=ml k p ⟨(p:Nat),11,fd,iy,n,bL,aZ,cG,data⟩:=by rw[gM,if_neg aD,if_neg aD,if_neg aD,if_pos aD]
  rw[eD];refine dX (yQ k p hi.w _) 4 1 rfl rfl rfl rfl ?_;refine⟨_,View.o1 6 [0,2,3,4,5] [] ?_,hs _ eD⟩
  .exact .au
 .subst h;have eD:gM k p ⟨(p:Nat),12,fd,iy,n,bL,aZ,cG,data⟩=jM k p ⟨(p:Nat),12,fd,iy,n,bL,aZ,cG,data⟩:=by rw[gM,if_neg aD,if_neg aD,if_neg aD,if_neg aD,if_pos aD]
  rw[eD];refine dX (uT k p hi.w _) 4 1 rfl rfl rfl rfl ?_;refine⟨_,View.o1 6 [0,2,3,4,5] [] ?_,hs _ eD⟩
  .exact .au
 .subst h;have eD:gM k p ⟨(p:Nat),13,fd,iy,n,bL,aZ,cG,data⟩=jM k p ⟨(p:Nat),13,fd,iy,n,bL,aZ,cG,data⟩:=by rw[gM,if_neg aD,if_neg aD,if_neg aD,if_neg aD,if_pos aD]
  rw[eD];refine dX (uT k p hi.w _) 4 1 rfl rfl rfl rfl ?_;refine⟨_,View.o1 6 [0,2,3,4,5] [] ?_,hs _ eD⟩
  .exact .au
 .subst h;have eD:gM k p ⟨(p:Nat),14,fd,iy,n,bL,aZ,cG,data⟩=jM k p ⟨(p:Nat),14,fd,iy,n,bL,aZ,cG,data⟩:=by rw[gM,if_neg aD,if_neg aD,if_neg aD,if_neg aD,if_pos aD]
  rw[eD];refine dX (uT k p hi.w _) 4 1 rfl rfl rfl rfl ?_;refine⟨_,View.o1 6 [0,2,3,4,5] [] ?_,hs _ eD⟩
  .exact .au
 .subst h;have eD:gM k p ⟨(p:Nat),15,fd,iy,n,bL,aZ,cG,data⟩=jx k p:=by rw[gM,if_neg aD,if_neg aD,if_neg aD,if_neg aD,if_neg aD,if_pos aD]
  rw[eD];refine PW k p hi.w hi.pr 4 rfl ?_;refine⟨_,View.o1 6 [0,2,3,4,5] [] ?_,hs _ eD⟩
  .exact .au
 .subst h;have eD:gM k p ⟨(p:Nat),16,fd,iy,n,bL,aZ,cG,data⟩=jv k p ⟨(p:Nat),16,fd,iy,n,bL,aZ,cG,data⟩:=by rw[gM,if_neg aD,if_neg aD,if_neg aD,if_neg aD,if_neg aD,if_neg aD,if_pos aD]
  rw[eD];refine dX (Ma k p hi.w _ hd) 4 1 rfl rfl rfl rfl ?_;refine⟨_,View.o1 6 [0,2,3,4,5] [] ?_,hs _ eD⟩
  .exact .au
 .subst h;have eD:gM k p ⟨(p:Nat),17,fd,iy,n,bL,aZ,cG,data⟩=jw k p ⟨(p:Nat),17,fd,iy,n,bL,aZ,cG,data⟩:=by rw[gM,if_neg aD,if_neg aD,if_neg aD,if_neg aD,if_neg aD,if_neg aD,if_neg aD,if_pos aD]
  rw[eD];refine dX (Mb k p hi.w _) 4 1 rfl rfl rfl rfl ?_;refine⟨_,View.o1 6 [0,2,3,4,5] [] ?_,hs _ eD⟩
  .exact .au
 .subst h;have eD:gM k p ⟨(p:Nat),18,fd,iy,n,bL,aZ,cG,data⟩=fc k p ⟨(p:Nat),18,fd,iy,n,bL,aZ,cG,data⟩:=by rw[gM,if_neg aD,if_neg aD,if_neg aD,if_neg aD,if_neg aD,if_neg aD,if_neg aD,if_neg aD]
  rw[eD];refine dX (ke k p hi.w _ (by simp[rZ]) hi.q) 4 1 rfl rfl rfl rfl ?_
  refine⟨_,View.o1 6 [0,2,3,4,5] [] ?_,hs _ eD⟩
  .exact .au
 .subst h;have eD:gM k p ⟨(p:Nat),19,fd,iy,n,bL,aZ,cG,data⟩=fc k p ⟨(p:Nat),19,fd,iy,n,bL,aZ,cG,data⟩:=by rw[gM,if_neg aD,if_neg aD,if_neg aD,if_neg aD,if_neg aD,if_neg aD,if_neg aD,if_neg aD]
  rw[eD];refine dX (ke k p hi.w _ (by simp[rZ]) hi.q) 4 1 rfl rfl rfl rfl ?_
  refine⟨_,View.o1 6 [0,2,3,4,5] [] ?_,hs _ eD⟩
  .exact .au
 .subst h;have eD:gM k p ⟨(p:Nat),20,fd,iy,n,bL,aZ,cG,data⟩=fc k p ⟨(p:Nat),20,fd,iy,n,bL,aZ,cG,data⟩:=by rw[gM,if_neg aD,if_neg aD,if_neg aD,if_neg aD,if_neg aD,if_neg aD,if_neg aD,if_neg aD]
  rw[eD];refine dX (ke k p hi.w _ (by simp[rZ]) hi.q) 4 1 rfl rfl rfl rfl ?_
  refine⟨_,View.o1 6 [0,2,3,4,5] [] ?_,hs _ eD⟩
  .exact .au
 .subst h;have eD:gM k p ⟨(p:Nat),21,fd,iy,n,bL,aZ,cG,data⟩=fc k p ⟨(p:Nat),21,fd,iy,n,bL,aZ,cG,data⟩:=by rw[gM,if_neg aD,if_neg aD,if_neg aD,if_neg aD,if_neg aD,if_neg aD,if_neg aD,if_neg aD]
  rw[eD];refine dX (ke k p hi.w _ (by simp[rZ]) hi.q) 4 1 rfl rfl rfl rfl ?_
  refine⟨_,View.o1 6 [0,2,3,4,5] [] ?_,hs _ eD⟩
  .exact .au
 .subst h;have eD:gM k p ⟨(p:Nat),22,fd,iy,n,bL,aZ,cG,data⟩=fc k p ⟨(p:Nat),22,fd,iy,n,bL,aZ,cG,data⟩:=by rw[gM,if_neg aD,if_neg aD,if_neg aD,if_neg aD,if_neg aD,if_neg aD,if_neg aD,if_neg aD]
  rw[eD];refine dX (ke k p hi.w _ (by simp[rZ]) hi.q) 4 1 rfl rfl rfl rfl ?_
  refine⟨_,View.o1 6 [0,2,3,4,5] [] ?_,hs _ eD⟩
  .exact .au
theorem Xa(prog:List eQ)(k:Kr)(p:Nat)(hp:p<k.ps.length)(c:Cl)(hc:c.aQ=p)(hk:¬(c.ah<1\/c.ah>22))(hi:P0 k p c)(hd:c.data.length<=4194304)(R:Kr×An)(hR:R=if jy k.ps p=true/\((zX prog (oS c)).1≠1\/c.ah=2)then(k,An.no 9)else Rl k (gM k p c)):
  aw Tryz.prog 0 aaN (QD R)
   ⟨i5 116 [(0,tL prog),(4,.rv (.one (.ptr 0 0))),(5,.rv (.one (.ptr 1 0))),(6,.rv (.one (.ptr 2 0))),(7,.rv (.one (.ptr 3 0)))],[kB k,cB c,z3B,ju]⟩:=by
 have hs:=W9 k p hp c hc hk hi hd;have hf:jy k.ps p=k.ps[p].fenced:=by rw[jy,wy hp]
 refine af (x:=[.val (.bool k.ps[p].aF),.val (.bool k.ps[p].fenced),.val (.int .i64 k.ps[p].code),gL k.ps[p].an]) (by rw[hc];exact eK hp) ?_
 rw[hf]at hR;generalize k.ps[p].fenced=fen at hR;cases fen with
 |false=>
  rw[if_neg aD]at hR;subst hR;refine⟨_,View.o1 4 [0,1,2,3] [] ?_,hs⟩
  .exact .au
 |true=>
  refine Mg c ?_;refine W8 prog (oS c) ?_;generalize zX prog (oS c)=rr at hR;obtain⟨n,st⟩:=rr;refine bF (λhn=>?_) (λhn=>?_)
  .have hn:n≠1:=hn;rw[if_pos ⟨rfl,.inl hn⟩]at hR;subst hR;exact Bc
  have hn:¬n≠1:=λh=>h hn
  refine ba (λh2=>?_) (λh2=>?_)
  .have h2:c.ah=2:=h2;rw[if_pos ⟨rfl,.inr h2⟩]at hR;subst hR;exact Bc
  have h2:¬c.ah=2:=h2;rw[if_neg (λh=>h.2.elim hn h2)]at hR
  subst hR;refine⟨_,View.o1 4 [0,1,2,3] [] ?_,hs⟩
  .exact .au
theorem S7(prog:List eQ)(k:Kr)(c:Cl)(hi:∀(p:Nat)(hp:p<k.ps.length),c.aQ=p->k.ps[p].aF=true->P0 k p c)(hd:c.data.length<=4194304):
  body Tryz.prog c12 [tL prog,cA k.l k.ops k.ps,c.cv] [] (λr m=>cH m r (doR (np prog k c))):=by
 refine pO k.l k.ops k.ps c.aQ ?_;cases hl:fa k.ps c.aQ with
 |false=>
  rw[np,if_pos hl];exact Bc
 |true=>
  obtain⟨p,hc,hp,bO⟩:=pP hl;have e0:np prog k c=if c.ah<1\/c.ah>22 then(k,An.no 1)
   else if jy k.ps p=true/\((zX prog (oS c)).1≠1\/c.ah=2)then(k,An.no 9)else Rl k (gM k p c):=by
   rw[np,if_neg (by rw[hl];simp),hc,aal]
  rw[e0];refine am (λh1=>?_) (λh1=>?_)
  .have h1:c.ah<1:=h1;rw[if_pos (.inl h1)];exact Bc
  have h1:¬c.ah<1:=h1;refine am (λh2=>?_) (λh2=>?_)
  .have h2:c.ah>22:=h2;rw[if_pos (.inr h2)];exact Bc
  have h2:¬c.ah>22:=h2;rw[if_neg om];refine⟨_,View.o1 4 [0,1,2,3] [] ?_,Xa prog k p hp c hc om (hi p hp hc bO) hd _ rfl⟩
  .exact .au
theorem aaT(prog:List eQ)(k:Kr)(c:Cl)(hi:∀(p:Nat)(hp:p<k.ps.length),c.aQ=p->k.ps[p].aF=true->P0 k p c)(hd:c.data.length<=4194304){m:Mem}{K:CV->Mem->Prop}(h:K (doR (np prog k c)) m):
  ap Tryz.prog 12 [tL prog,cA k.l k.ops k.ps,c.cv] m K:=
 aR (cE func12 l12 (S7 prog k c hi hd)) (by simp[cA,cT,de,dZ,tL,Cl.cv,Cl.enc,CV.cW,CC.cW,RV.cW]) λr m1 hf=>⟨_,hf,h⟩
end Kn
namespace Kn
def df(o:Obj):List NE:=o.ag.map kO
structure Sk where
 ah:Int
 up:Int
 ak:Int
 es:List NE
def t7(o:Obj):Sk:=⟨o.ah,o.up,o.ak,df o⟩
def skZ:Sk:=⟨0,0,0,[]⟩
inductive Lk(t:List Sk):Nat->Prop
 |ay:Lk t 0
 |step {i j:Nat} {d:Sk} {e:NE} (h:Lk t i) (hd:t[i]? =some d) (he:e∈d.es) (hj:e.2=(j:Nat)):Lk t j
structure Tree(t:List Sk):Prop where
 z:∀(i:Nat)d,t[i]? =some d->d.ah=0->d=skZ
 r0:∃d,t[0]? =some d/\d.ah=2/\d.ak=1/\d.up=0
 tr:∀(i:Nat)d e,t[i]? =some d->e∈d.es->∃(j:Nat)(x:Sk),e.2=j/\j≠0/\t[j]? =some x/\x.ah≠0/\x.ak=1/\(x.ah=2->x.up=i)
 un:∀(i i':Nat)d d' e e',t[i]? =some d->t[i']? =some d'->e∈d.es->e'∈d'.es->e.2=e'.2->i=i'/\e=e'
 lk:∀(i:Nat)d,t[i]? =some d->d.ak≠0->Lk t i
 em:∀(i:Nat)d,t[i]? =some d->d.ak=0->d.es=[]
 lr:∀(i:Nat)d,t[i]? =some d->d.ak=0\/d.ak=1
 ux:∀(i:Nat)d,t[i]? =some d->d.up=i\/d.up=0\/d.ah=2/\∃(u:Nat)(x:Sk)(e:NE),d.up=u/\t[u]? =some x/\e∈x.es/\e.2=i
theorem Tree.aaU{t:List Sk}(h:Tree t){i:Nat}{d:Sk}(hd:t[i]? =some d):0<=d.up/\d.up<t.length:=by
 have hi:=(Lw.1 hd).1;rcases h.ux i d hd with h1|h1|⟨_,u,x,e,h1,h2,_⟩
 .omega
 .omega
 .have:=(Lw.1 h2).1;omega
theorem Lk.mono{t t':List Sk}(h:∀(i:Nat)d,t[i]? =some d->d.es≠[]->∃d',t'[i]? =some d'/\∀e,e∈d.es->e∈d'.es){i:Nat}(hl:Lk t i):Lk t' i:=by
 induction hl with
 |ay=>exact .ay
 |step _ hd he hj ih=>
  obtain⟨d',h1,h2⟩:=h _ _ hd (λe=>by rw[e]at he;cases he)
  exact .step ih h1 (h2 _ he) hj
theorem Tree.new{t t':List Sk}(h:Tree t){k:Nat}{s:Sk}(hs:s.ah≠0/\s.ak=0/\s.es=[]/\(s.up=0\/s.up=k))(h1:t'[k]? =some s)(h2:∀j,j≠k->t'[j]? =t[j]?)(h3:∀d,t[k]? =some d->d.ah=0):Tree t':=by
 obtain⟨hk,hl,he,hu⟩:=hs;have old:∀(i:Nat)d,t[i]? =some d->d.ah≠0->t'[i]? =some d:=λi d hd hn=>by rw[h2 i λe=>hn (h3 d (e▸hd))];exact hd
 have aaV:∀(i:Nat)d e,t[i]? =some d->e∈d.es->t'[i]? =some d:=λi d e hd he=>old i d hd λhz=>by rw[h.z i d hd hz]at he;cases he
 have qY:∀(i:Nat)d,t'[i]? =some d->(i=k/\d=s)\/t[i]? =some d:=λi d hd=>by
  by_cases e:i=k
  .subst e;rw[h1]at hd;cases hd;exact .inl ⟨rfl,rfl⟩
  .rw[h2 i e]at hd;exact .inr hd
 have hE:∀(i:Nat)d e,t'[i]? =some d->e∈d.es->t[i]? =some d:=λi d e hd hx=>by
  rcases qY i d hd with⟨_,rfl⟩|h
  .rw[he]at hx;cases hx
  .exact h
 have Rm:∀i,Lk t i->Lk t' i:=λi hi=>hi.mono λi d hd hn=>by obtain⟨e,hx⟩:=adR _ hn;exact⟨d,aaV i d e hd hx,λ_ h=>h⟩
 refine⟨λi d hd hz=>?_,?_,λi d e hd hx=>?_,λi i' d d' e e' hd BP hx wj oD=>h.un i i' d d' e e' (hE i d e hd hx) (hE i' d' e' BP wj) hx wj oD,λi d hd hn=>?_,λi d hd hn=>?_,λi d hd=>?_,λi d hd=>?_⟩
 .rcases qY i d hd with⟨_,rfl⟩|h'
  .exact absurd hz hk
  .exact h.z i d h' hz
 .obtain⟨d,a1,a2,a3⟩:=h.r0;exact⟨d,old 0 d a1 om,a2,a3⟩
 .obtain⟨j,x,a1,a2,a3,a4,a5⟩:=h.tr i d e (hE i d e hd hx) hx;exact⟨j,x,a1,a2,old j x a3 a4,a4,a5⟩
 .rcases qY i d hd with⟨_,rfl⟩|h'
  .exact absurd hl hn
  .exact Rm i (h.lk i d h' hn)
 .rcases qY i d hd with⟨_,rfl⟩|h'
  .exact he
  .exact h.em i d h' hn
 .rcases qY i d hd with⟨_,rfl⟩|h'
  .exact .inl hl
  .exact h.lr i d h'
 .rcases qY i d hd with⟨rfl,rfl⟩|h'
  .exact hu.elim (λe=>.inr (.inl e)) .inl
  .rcases h.ux i d h' with a|a|⟨a0,u,x,e,a1,a2,a3,a4⟩
   .exact .inl a
   .exact .inr (.inl a)
   .exact .inr (.inr ⟨a0,u,x,e,a1,aaV u x e a2 a3,a3,a4⟩)
theorem Tree.enter{t t':List Sk}(h:Tree t){n p:Nat}{d q d' q':Sk}(hn:t[n]? =some d)(hp:t[p]? =some q)(lH:d.ak≠0)(I6:q.ak=0)(FC:q.ah≠0){nm:ByteArray}(h1:t'[n]? =some d')(h2:t'[p]? =some q')(h3:∀j,j≠n->j≠p->t'[j]? =t[j]?)(hd:d'.ah=d.ah/\d'.up=d.up/\d'.ak=d.ak)(Vh:∀e,e∈d'.es↔e∈d.es\/e=(nm,(p:Int)))(hq:q'.ah=q.ah/\q'.ak=1/\q'.es=q.es/\q'.up=if q.ah=2 then(n:Int)else q.up):Tree t':=by
 have t8:n≠p:=λe=>by subst e;rw[hn]at hp;cases hp;exact lH I6
 have Mh:q.es=[]:=h.em p q hp I6;have F9:d.ah≠0:=λe=>by rw[h.z n d hn e]at lH;exact lH rfl
 have yc:p≠0:=λe=>by obtain⟨r,a1,a2,a3,a4⟩:=h.r0;rw[e,a1]at hp;cases hp;omega
 have nop:∀(i:Nat)x e,t[i]? =some x->e∈x.es->e.2≠(p:Int):=λi x e hx he hc=>by obtain⟨j,y,a1,_,a3,_,a5,_⟩:=h.tr i x e hx he;have:j=p:=om;subst this;rw[hp]at a3;cases a3;omega
 have qY:∀(i:Nat)x,t'[i]? =some x->(i=n/\x=d')\/(i=p/\x=q')\/(i≠n/\i≠p/\t[i]? =some x):=λi x hx=>by
  by_cases e:i=n
  .subst e;rw[h1]at hx;cases hx;exact .inl ⟨rfl,rfl⟩
  .by_cases e2:i=p
   .subst e2;rw[h2]at hx;cases hx;exact .inr (.inl ⟨rfl,rfl⟩)
   .rw[h3 i e e2]at hx;exact .inr (.inr ⟨e,e2,hx⟩)
 have back:∀(i:Nat)x e,t'[i]? =some x->e∈x.es->(∃y,t[i]? =some y/\e∈y.es)\/(i=n/\e=(nm,(p:Int))):=λi x e hx he=>by
  rcases qY i x hx with⟨rfl,rfl⟩|⟨rfl,rfl⟩|⟨_,_,hx⟩
  .rcases(Vh e).1 he with he|he
   .exact .inl ⟨d,hn,he⟩
   .exact .inr ⟨rfl,he⟩
  .rw[hq.2.2.1,Mh]at he;cases he
  .exact .inl ⟨x,hx,he⟩
 have fwd:∀(i:Nat)x,t[i]? =some x->∃x',t'[i]? =some x'/\x'.ah=x.ah/\∀e,e∈x.es->e∈x'.es:=λi x hx=>by
  by_cases e:i=n
  .subst e;rw[hn]at hx;cases hx;exact⟨d',h1,hd.1,λe he=>(Vh e).2 (.inl he)⟩
  .by_cases e2:i=p
   .subst e2;rw[hp]at hx;cases hx;exact⟨q',h2,hq.1,λe he=>by rw[Mh]at he;cases he⟩
   .exact⟨x,by rw[h3 i e e2];exact hx,rfl,λ_ h=>h⟩
 have Rm:∀i,Lk t i->Lk t' i:=λi hi=>hi.mono λi x hx _=>by obtain⟨x',a1,_,a2⟩:=fwd i x hx;exact⟨x',a1,a2⟩
 refine⟨λi x hx hz=>?_,?_,λi x e hx he=>?_,λi i' x x' e e' hx wj he vf oD=>?_,λi x hx Q3=>?_,λi x hx hz=>?_,λi x hx=>?_,λi x hx=>?_⟩
 .rcases qY i x hx with⟨rfl,rfl⟩|⟨rfl,rfl⟩|⟨_,_,hx⟩
  .exact absurd (hd.1▸hz) F9
  .exact absurd (hq.1▸hz) FC
  .exact h.z i x hx hz
 .obtain⟨r,a1,a2,a3,a4⟩:=h.r0;by_cases e:(0:Nat)=n
  .subst e;rw[a1]at hn;cases hn;exact⟨d',h1,by rw[hd.1];exact a2,by rw[hd.2.2];exact a3,by rw[hd.2.1];exact a4⟩
  .exact⟨r,by rw[h3 0 e (λe=>yc e.symm)];exact a1,a2,a3,a4⟩
 .rcases back i x e hx he with⟨y,hy,S8⟩|⟨rfl,rfl⟩
  .obtain⟨j,z,a1,a2,a3,a4,a5,a6⟩:=h.tr i y e hy S8;by_cases ej:j=n
   .subst ej;rw[hn]at a3;cases a3;exact⟨j,d',a1,a2,h1,by rw[hd.1];exact a4,by rw[hd.2.2];exact a5,by rw[hd.1,hd.2.1];exact a6⟩
   .have ejp:j≠p:=λe=>by subst e;rw[hp]at a3;cases a3;omega
    exact⟨j,z,a1,a2,by rw[h3 j ej ejp];exact a3,a4,a5,a6⟩
  .refine⟨p,q',rfl,yc,h2,by rw[hq.1];exact FC,hq.2.1,λhk=>?_⟩
   rw[hq.2.2.2,if_pos (by rw[<-hq.1];exact hk)]
 .rcases back i x e hx he with⟨y,hy,S8⟩|⟨rfl,rfl⟩
  .rcases back i' x' e' wj vf with⟨y',hy',P1⟩|⟨rfl,rfl⟩
   .exact h.un i i' y y' e e' hy hy' S8 P1 oD
   .exact absurd oD (nop i y e hy S8)
  .rcases back i' x' e' wj vf with⟨y',hy',P1⟩|⟨rfl,rfl⟩
   .exact absurd oD.symm (nop i' y' e' hy' P1)
   .exact⟨rfl,rfl⟩
 .rcases qY i x hx with⟨rfl,rfl⟩|⟨rfl,rfl⟩|⟨_,_,hx⟩
  .exact Rm _ (h.lk _ d hn lH)
  .exact .step (Rm _ (h.lk _ d hn lH)) h1 ((Vh _).2 (.inr rfl)) rfl
  .exact Rm _ (h.lk i x hx Q3)
 .rcases qY i x hx with⟨rfl,rfl⟩|⟨rfl,rfl⟩|⟨_,_,hx⟩
  .exact absurd (hd.2.2▸hz) lH
  .rw[hq.2.1]at hz;omega
  .exact h.em i x hx hz
 .rcases qY i x hx with⟨rfl,rfl⟩|⟨rfl,rfl⟩|⟨_,_,hx⟩
  .rw[hd.2.2];exact h.lr i d hn
  .exact .inr hq.2.1
  .exact h.lr i x hx
 .have key:∀(i:Nat)(y:Sk),t[i]? =some y->(y.up=i\/y.up=0\/y.ah=2/\∃(u:Nat)(x:Sk)(e:NE),y.up=u/\t'[u]? =some x/\e∈x.es/\e.2=i):=λi y hy=>by
   rcases h.ux i y hy with a|a|⟨a0,u,z,e,a1,a2,a3,a4⟩
   .exact .inl a
   .exact .inr (.inl a)
   .obtain⟨z',b1,_,b2⟩:=fwd u z a2;exact .inr (.inr ⟨a0,u,z',e,a1,b1,b2 e a3,a4⟩)
  rcases qY i x hx with⟨rfl,rfl⟩|⟨rfl,rfl⟩|⟨_,_,hx⟩
  .rw[hd.2.1,hd.1];exact key i d hn
  .rw[hq.2.2.2,hq.1];by_cases e2:q.ah=2
   .rw[if_pos e2];exact .inr (.inr ⟨e2,n,d',_,rfl,h1,(Vh _).2 (.inr rfl),rfl⟩)
   .rw[if_neg e2];exact key i q hp
  .exact key i x hx
theorem Tree.y0{t t':List Sk}(h:Tree t){n p:Nat}{d q d' q':Sk}{e0:NE}(hn:t[n]? =some d)(vR:e0∈d.es)(hep:e0.2=(p:Int))(hp:t[p]? =some q)(Mh:q.es=[])(h1:t'[n]? =some d')(h2:t'[p]? =some q')(h3:∀j,j≠n->j≠p->t'[j]? =t[j]?)(hd:d'.ah=d.ah/\d'.up=d.up/\d'.ak=d.ak)(Vh:∀e,e∈d'.es↔e∈d.es/\e≠e0)(hq:q'.ah=q.ah/\q'.ak=0/\q'.es=[]/\q'.up=if q.ah=2 then(p:Int)else q.up):Tree t':=by
 have t8:n≠p:=λe=>by subst e;rw[hn]at hp;cases hp;rw[Mh]at vR;cases vR
 obtain⟨p',q2,b1,yc,b3,FC,I6,_⟩:=h.tr n d e0 hn vR;have:p'=p:=om;subst this;rw[hp]at b3;cases b3;have F9:d.ah≠0:=λe=>by rw[h.z n d hn e]at vR;cases vR
 have qY:∀(i:Nat)x,t'[i]? =some x->(i=n/\x=d')\/(i=p'/\x=q')\/(i≠n/\i≠p'/\t[i]? =some x):=λi x hx=>by
  by_cases e:i=n
  .subst e;rw[h1]at hx;cases hx;exact .inl ⟨rfl,rfl⟩
  .by_cases e2:i=p'
   .subst e2;rw[h2]at hx;cases hx;exact .inr (.inl ⟨rfl,rfl⟩)
   .rw[h3 i e e2]at hx;exact .inr (.inr ⟨e,e2,hx⟩)
 have back:∀(i:Nat)x e,t'[i]? =some x->e∈x.es->∃y,t[i]? =some y/\e∈y.es/\e≠e0:=λi x e hx he=>by
  rcases qY i x hx with⟨rfl,rfl⟩|⟨rfl,rfl⟩|⟨c1,_,hx⟩
  .exact⟨d,hn,((Vh e).1 he).1,((Vh e).1 he).2⟩
  .rw[hq.2.2.1]at he;cases he
  .exact⟨x,hx,he,λe1=>by subst e1;exact c1 (h.un i n x d e e hx hn he vR rfl).1⟩
 have fwd:∀(i:Nat)x,t[i]? =some x->∃x',t'[i]? =some x'/\x'.ah=x.ah/\∀e,e∈x.es->e≠e0->e∈x'.es:=λi x hx=>by
  by_cases e:i=n
  .subst e;rw[hn]at hx;cases hx;exact⟨d',h1,hd.1,λe he fG=>(Vh e).2 ⟨he,fG⟩⟩
  .by_cases e2:i=p'
   .subst e2;rw[hp]at hx;cases hx;exact⟨q',h2,hq.1,λe he=>by rw[Mh]at he;cases he⟩
   .exact⟨x,by rw[h3 i e e2];exact hx,rfl,λ_ h _=>h⟩
 have Rm:∀i,Lk t i->i≠p'->Lk t' i:=λi hi=>by
  induction hi with
  |ay=>exact λ_=>.ay
  | @step i j x e hl hx he hj ih=>
   intro hjp;have Yf:i≠p':=λe1=>by subst e1;rw[hp]at hx;cases hx;rw[Mh]at he;cases he
   obtain⟨x',a1,_,a2⟩:=fwd i x hx;exact .step (ih Yf) a1 (a2 e he λe1=>hjp (by subst e1;omega)) hj
 refine⟨λi x hx hz=>?_,?_,λi x e hx he=>?_,λi i' x x' e e' hx wj he vf oD=>?_,λi x hx Q3=>?_,λi x hx hz=>?_,λi x hx=>?_,λi x hx=>?_⟩
 .rcases qY i x hx with⟨rfl,rfl⟩|⟨rfl,rfl⟩|⟨_,_,hx⟩
  .exact absurd (hd.1▸hz) F9
  .exact absurd (hq.1▸hz) FC
  .exact h.z i x hx hz
 .obtain⟨r,a1,a2,a3,a4⟩:=h.r0;by_cases e:(0:Nat)=n
  .subst e;rw[a1]at hn;cases hn;exact⟨d',h1,by rw[hd.1];exact a2,by rw[hd.2.2];exact a3,by rw[hd.2.1];exact a4⟩
  .exact⟨r,by rw[h3 0 e (λe=>yc e.symm)];exact a1,a2,a3,a4⟩
 .obtain⟨y,hy,S8,fG⟩:=back i x e hx he;obtain⟨j,z,a1,a2,a3,a4,a5,a6⟩:=h.tr i y e hy S8;by_cases ej:j=n
  .subst ej;rw[hn]at a3;cases a3;exact⟨j,d',a1,a2,h1,by rw[hd.1];exact a4,by rw[hd.2.2];exact a5,by rw[hd.1,hd.2.1];exact a6⟩
  .have ejp:j≠p':=λe1=>by subst e1;exact fG (h.un i n y d e e0 hy hn S8 vR (a1.trans hep.symm)).2
   exact⟨j,z,a1,a2,by rw[h3 j ej ejp];exact a3,a4,a5,a6⟩
 .obtain⟨y,hy,S8,_⟩:=back i x e hx he;obtain⟨y',hy',P1,_⟩:=back i' x' e' wj vf;exact h.un i i' y y' e e' hy hy' S8 P1 oD
 .rcases qY i x hx with⟨rfl,rfl⟩|⟨rfl,rfl⟩|⟨_,c2,hx⟩
  .exact Rm _ (h.lk _ d hn λe=>by rw[h.em i d hn e]at vR;cases vR) t8
  .exact absurd hq.2.1 Q3
  .exact Rm _ (h.lk i x hx Q3) c2
 .rcases qY i x hx with⟨rfl,rfl⟩|⟨rfl,rfl⟩|⟨_,_,hx⟩
  .rw[h.em i d hn (hd.2.2▸hz)]at vR;cases vR
  .exact hq.2.2.1
  .exact h.em i x hx hz
 .rcases qY i x hx with⟨rfl,rfl⟩|⟨rfl,rfl⟩|⟨_,_,hx⟩
  .rw[hd.2.2];exact h.lr i d hn
  .exact .inl hq.2.1
  .exact h.lr i x hx
 .have key:∀(i:Nat)(y:Sk),t[i]? =some y->i≠p'->(y.up=i\/y.up=0\/y.ah=2/\∃(u:Nat)(x:Sk)(e:NE),y.up=u/\t'[u]? =some x/\e∈x.es/\e.2=i):=λi y hy Yf=>by
   rcases h.ux i y hy with a|a|⟨a0,u,z,e,a1,a2,a3,a4⟩
   .exact .inl a
   .exact .inr (.inl a)
   .obtain⟨z',b1,_,b2⟩:=fwd u z a2;exact .inr (.inr ⟨a0,u,z',e,a1,b1,b2 e a3 λe1=>Yf (by subst e1;omega),a4⟩)
  rcases qY i x hx with⟨rfl,rfl⟩|⟨rfl,rfl⟩|⟨_,c2,hx⟩
  .rw[hd.2.1,hd.1];exact key i d hn t8
  .rw[hq.2.2.2,hq.1];by_cases e2:q.ah=2
   .rw[if_pos e2];exact .inl rfl
   .rw[if_neg e2];rcases h.ux i q hp with a|a|⟨a0,_⟩
    .exact .inl a
    .exact .inr (.inl a)
    .exact absurd a0 e2
  .exact key i x hx c2
theorem Tree.sub{t t':List Sk}(h:Tree t){M:Nat->Prop}(h0:M 0)(gF:∀(i:Nat)d e(j:Nat),M i->t[i]? =some d->e∈d.es->e.2=(j:Nat)->M j)(h1:∀(i:Nat)d,M i->t[i]? =some d->d.ah≠0->t'[i]? =some d)(h2:∀(i:Nat)d',t'[i]? =some d'->d'=skZ\/t[i]? =some d'/\M i):Tree t':=by
 have hM:∀i,Lk t i->M i:=λi hi=>by
  induction hi with
  |ay=>exact h0
  |step _ hd he hj ih=>exact gF _ _ _ _ ih hd he hj
 have kE:∀(i:Nat)d e,t[i]? =some d->e∈d.es->d.ah≠0:=λi d e hd he hz=>by rw[h.z i d hd hz]at he;cases he
 have oE:∀(i:Nat)d e,t[i]? =some d->e∈d.es->M i:=λi d e hd he=>hM i (h.lk i d hd λhz=>by rw[h.em i d hd hz]at he;cases he)
 have Rm:∀i,Lk t i->Lk t' i:=λi hi=>hi.mono λi d hd hn=>by obtain⟨e,hx⟩:=adR _ hn;exact⟨d,h1 i d (oE i d e hd hx) hd (kE i d e hd hx),λ_ h=>h⟩
 have bk:∀(i:Nat)d e,t'[i]? =some d->e∈d.es->t[i]? =some d/\M i:=λi d e hd he=>by
  rcases h2 i d hd with rfl|h
  .cases he
  .exact h
 refine⟨λi d hd hz=>?_,?_,λi d e hd hx=>?_,λi i' d d' e e' hd BP hx wj oD=>h.un i i' d d' e e' (bk i d e hd hx).1 (bk i' d' e' BP wj).1 hx wj oD,λi d hd hn=>?_,λi d hd hn=>?_,λi d hd=>?_,λi d hd=>?_⟩
 .rcases h2 i d hd with h'|⟨h',_⟩
  .exact h'
  .exact h.z i d h' hz
 .obtain⟨d,a1,a2,a3⟩:=h.r0;exact⟨d,h1 0 d h0 a1 om,a2,a3⟩
 .obtain⟨BP,hm⟩:=bk i d e hd hx;obtain⟨j,x,a1,a2,a3,a4,a5⟩:=h.tr i d e BP hx;exact⟨j,x,a1,a2,h1 j x (gF i d e j hm BP hx a1) a3 a4,a4,a5⟩
 .rcases h2 i d hd with rfl|⟨h',_⟩
  .exact absurd rfl hn
  .exact Rm i (h.lk i d h' hn)
 .rcases h2 i d hd with rfl|⟨h',_⟩
  .rfl
  .exact h.em i d h' hn
 .rcases h2 i d hd with rfl|⟨h',_⟩
  .exact .inl rfl
  .exact h.lr i d h'
 .rcases h2 i d hd with rfl|⟨h',_⟩
  .exact .inr (.inl rfl)
  .rcases h.ux i d h' with a|a|⟨a0,u,x,e,a1,a2,a3,a4⟩
   .exact .inl a
   .exact .inr (.inl a)
   .exact .inr (.inr ⟨a0,u,x,e,a1,h1 u x (oE u x e a2 a3) a2 (kE u x e a2 a3),a3,a4⟩)
theorem Tree.take{t:List Sk}(h:Tree t){n:Nat}(hn:1<=n)(hz:∀(i:Nat)d,n<=i->t[i]? =some d->d.ah=0):Tree (t.take n):=by
 have get:∀(i:Nat)d,(t.take n)[i]? =some d->t[i]? =some d:=λi d hd=>by
  rw[abK]at hd;split at hd
  .exact hd
  .cases hd
 have put:∀(i:Nat)d,t[i]? =some d->d.ah≠0->(t.take n)[i]? =some d:=λi d hd hk=>by
  rw[abK,if_pos (aea λhle=>hk (hz i d hle hd))]
  exact hd
 have kE:∀(i:Nat)d e,t[i]? =some d->e∈d.es->d.ah≠0:=λi d e hd he hz=>by rw[h.z i d hd hz]at he;cases he
 refine⟨λi d hd hz=>h.z i d (get i d hd) hz,?_,λi d e hd hx=>?_,λi i' d d' e e' hd BP hx wj oD=>h.un i i' d d' e e' (get i d hd) (get i' d' BP) hx wj oD,λi d hd hn=>?_,λi d hd hn=>h.em i d (get i d hd) hn,λi d hd=>h.lr i d (get i d hd),λi d hd=>?_⟩
 .obtain⟨d,a1,a2,a3⟩:=h.r0;exact⟨d,put 0 d a1 om,a2,a3⟩
 .obtain⟨j,x,a1,a2,a3,a4,a5⟩:=h.tr i d e (get i d hd) hx;exact⟨j,x,a1,a2,put j x a3 a4,a4,a5⟩
 .refine(h.lk i d (get i d hd) hn).mono λi d hd fG=>?_
  obtain⟨e,hx⟩:=adR _ fG;exact⟨d,put i d hd (kE i d e hd hx),λ_ h=>h⟩
 .rcases h.ux i d (get i d hd)with a|a|⟨a0,u,x,e,a1,a2,a3,a4⟩
  .exact .inl a
  .exact .inr (.inl a)
  .exact .inr (.inr ⟨a0,u,x,e,a1,put u x a2 (kE u x e a2 a3),a3,a4⟩)
end Kn
end Go.Proofs.YtllkfpggoigbaaaGreatDoor
