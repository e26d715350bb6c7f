/- Part 15 of 35. -/
import Derived.Test.YtllkfpggoigbaaaGreatDoorS14
set_option linter.unusedVariables false
set_option linter.unusedSimpArgs false
set_option linter.unnecessarySimpa false
set_option maxRecDepth 100000
set_option maxHeartbeats 0
namespace Go.AM
section
variable {P:Program}
theorem View.bt{n0:Nat}{e:List CV}{m:Mem}(t esz n:Nat)(hn:m.length=n)(he:lm e t= .rv (.one .bt))(h0:Nat.ble n0 n=true):
  View n0 ⟨e,m⟩ ⟨aX e t (.rv (.one (.row n esz 0 none))),fT m [.row esz []]⟩:=by
 subst hn;have h0:=aav h0;rw[bh,cf];refine⟨by simp;omega,aD,λρ w hM=>?_⟩
 have hn:ρ.n=m.length:=hM.n;let U':bX:={n:=m.length+1,aV:=λk=>if k.id=m.length then⟨0,0,0,0⟩else ρ.aV k,S:=ρ.S}
 have cV:∀k:kN,k.id<ρ.n->U'.aV k=ρ.aV k:=λk hk=>by simp only[U'];rw[if_neg om]
 have g:jC ρ w U' w:=⟨by show ρ.n<=m.length+1;omega,cV,λ_ h=>h,λ_ _=>rfl⟩
 have cZ:∀k,Live U' (m++ [.row esz []]) k->Live ρ m k:=by
  intro k hk;have ax:=hk.gO;simp at ax;cases k with
  |ay id=>
   obtain⟨bk,hb,so,bv⟩:=hk;simp only[kN.id]at ax;rcases aax id m.length with h|h
   .rw[aaW h]at hb;rw[cV (.ay id) (by simp only[kN.id];omega)]at bv
    exact⟨bk,hb,so,bv⟩
   .have:id=m.length:=om;subst this;simp at hb;subst hb;have:=bv ⟨_,_,rfl⟩;simp[U',kN.id]at this
  |sub id i j=>
   obtain⟨⟨s,el,es,rows,cs,hb,hi,hj⟩,bv⟩:=hk;simp only[kN.id]at ax;rcases aax id m.length with h|h
   .rw[aaW h]at hb;rw[cV (.sub id i j) (by simp only[kN.id];omega)]at bv
    exact⟨⟨s,el,es,rows,cs,hb,hi,hj⟩,bv⟩
   .have:id=m.length:=om;subst this;simp at hb;obtain⟨_,rfl⟩:=hb;simp at hi
 have kI:∀k,Live ρ m k->U'.aV k=ρ.aV k:=λk hk=>cV k (by rw[hn];exact hk.gO)
 refine⟨U',⟨by simp[U'],hM.S,λk hk=>?_,λk k' hk iG oD=>?_,λid b hb=>?_,λid i j s el ho bv=>?_⟩,⟨λid hid=>cV (.ay id) (by simp only[kN.id];omega),λ_ h=>h,λ_ h=>.inl h,λk hk=>⟨k,cZ k hk,(by rw[kI k (cZ k hk)])⟩⟩,λi c' hi=>?_⟩
 .rw[kI k (cZ k hk)];exact hM.aF k (cZ k hk)
 .rw[kI k (cZ k hk),kI k' (cZ k' iG)]at oD;exact hM.inj k k' (cZ k hk) (cZ k' iG) oD
 .rcases aax id m.length with h|h
  .rw[aaW h]at hb;exact(hM.bk id b hb).cY g om λ_ _=>rfl
  .have ax:=(Lw.1 hb).1;simp at ax;have:id=m.length:=om;subst this;simp at hb;subst hb;simp[eS,U',kN.id]
 .have hk:Live ρ m (.sub id i j):=cZ (.sub id i j) ⟨⟨_,_,ho⟩,bv⟩;have hid:=hk.gO;simp only[kN.id]at hid;rw[kI _ hk]at bv|-;obtain⟨es,rows,cs,hb,hi,hj⟩:=ho;rw[aaW hid]at hb;obtain⟨cur,hc,q1,q2,q3⟩:=hM.iJ id i j s el ⟨es,rows,cs,hb,hi,hj⟩ bv;exact⟨cur,hc,q1,q2,q3⟩
 .simp only at hi;have ax:=(Lw.1 hi).1;simp at ax;rw[abU]at hi;split at hi
  .rename_i Oc;subst Oc;rw[if_pos ax]at hi;cases hi;refine⟨.rv (.one .bt),?_,λv hd=>?_⟩
   .rw[mM,wy ax]at he;rw[wy ax];simpa using he
   .obtain⟨a,rfl⟩:=hd;simp[cw,ep,bH,U',kN.id]
  .exact⟨c',hi,λv hd=>cw.cY g hd⟩
theorem xP{n0:Nat}{b:LC}{K:Ex->St->Prop}{s:St}{α:Type}(J:α->Prop)(f:α->List (Nat×CV))(M:α->Mem)(μ:α->Nat)(a0:α)(h0:J a0)(start:View n0 s ⟨DL s.aY (f a0),M a0⟩)(round:∀a,J a->aw P n0 b (IE n0 J (λa=>⟨DL s.aY (f a),M a⟩) μ (μ a) K) ⟨DL s.aY (f a),M a⟩):aw P n0 (.loop b) K s:=
 ⟨α,J,λa=>⟨DL s.aY (f a),M a⟩,μ,⟨a0,h0,start⟩,round⟩
theorem AL:∀{cs:List CC}{k:Nat}{c:CC},cs[k]? =some c->jI cs k 1=some [c]
 | [],k,c,h=>by simp at h
 |x::r,0,c,h=>by simp at h;subst h;cases r<;>rfl
 |x::r,k+1,c,h=>by
  show jI r k 1=_;exact AL (by simpa using h)
theorem oC.bn{Y:Nat->Nat}{m:Mem}{Z:Nat->Prop}{id s:Nat}{es:List (List CC)}{ds:List (List Dt)}(h:es=aa ds):oC Y m Z id (.row s es) (.row s (aa ds)):=by subst h;have:=oC.KY (Y:=Y) (m:=m) (Z:=Z) (id:=id) (.row s (aa ds)) aD;rwa [Bk.ei]at this
theorem fv{F:List Nat}{k:Nat}(h:bc F k=false):¬bc F k=true:=by rw[h];simp
theorem oC.eq{Y:Nat->Nat}{m:Mem}{Z:Nat->Prop}{id:Nat}{b b':Bk}(h:b'.aN Y=b)(hd:b'≠.aE):oC Y m Z id b b':=h▸ .KY b' hd
theorem oC.k9{Y:Nat->Nat}{m:Mem}{Z:Nat->Prop}{id:Nat}{cs:List CC}{ds:List Dt}(h:cs=ds.map .ai):oC Y m Z id (.var cs) (.var (ds.map .ai)):=by subst h;have:=oC.KY (Y:=Y) (m:=m) (Z:=Z) (id:=id) (.var (ds.map .ai)) aD;simpa[Bk.aN,CC.aN,ade]using this
theorem sq.hi{Y:Nat->Nat}{m:Mem}{Z:Nat->Prop}{kZ id e lo n esz:Nat}{elems:List (List CC)}(hσ:Y id=kZ)(hb:dh m kZ=some (.row esz elems))(hn:elems.length=n):
  sq Y m Z (.rv (.one (.row kZ e lo none))) (.rv (.one (.row id e lo (some n)))):=by
 subst hσ;subst hn;exact .rv (.one (.hi id e lo (by rw[<-aW];exact hb)))
theorem am{p:Prop}{i:Decidable p}{A B:Prop}(ha:p->A)(hb:¬p->B): @Bool.rec (λ_=>Prop) B A (@decide p i):=by
 cases hd: @decide p i
 .exact hb (of_decide_eq_false hd)
 .exact ha (of_decide_eq_true hd)
theorem ba{a b:Int}{A B:Prop}(ha:a=b->A)(hb:a≠b->B): @Bool.rec (λ_=>Prop) B A (a==b):=by
 cases hd:(a==b)
 .exact hb (by simpa using hd)
 .exact ha (by simpa using hd)
theorem bF{a b:Int}{A B:Prop}(ha:a≠b->A)(hb:a=b->B): @Bool.rec (λ_=>Prop) B A (a !=b):=by
 cases hd:(a !=b)
 .exact hb (by simpa using hd)
 .exact ha (by simpa using hd)
theorem sq.dG{Y:Nat->Nat}{m:Mem}{F:List Nat}(id:Nat)(ds:List (List Dt)){esz:Nat}(hz:bc F id=true)(hb:dh m id=some (.row esz (aa ds))):
  sq Y m (λk=>bc F k=true) (.rv (.one (.row id esz 0 none))) (.rv (.one (.ai (.sl esz ds)))):=
 .rv (.one (.dG (cS.da (Z:=λk=>bc F k=true) hz (by rw[<-aW];exact hb) 0 none)))
def UI(i:Nat):List (Nat×CV)->Option CV
 | []=>none
 |(j,x)::r=>match Nat.beq i j with|true=>some x|false=>UI i r
def kpV(ez:List Nat)(f:List (Nat×CV))(i:Nat)(v:CV):CV:=
 match UI i f with
 |some x=>x
 |none=>match bc ez i with|true=>v|false=>.aH
def ZD(ez:List Nat)(f:List (Nat×CV)):Nat->List CV->(List CV->List CV)->List CV
 |_,[],k=>k []
 |i,v::r,k=>fV (kpV ez f i v) λv'=>ZD ez f (i+1) r λr'=>k (v'::r')
def UJ(ez:List Nat)(e:List CV)(f:List (Nat×CV)):List CV:=ZD ez f 0 e λe=>e
theorem ar{n0:Nat}{b:LC}{K:Ex->St->Prop}{s:St}{α:Type}(J:α->Prop)(ez:List Nat)(f:α->List (Nat×CV))(M:α->Mem)(μ:α->Nat)(a0:α)(h0:J a0)(start:View n0 s ⟨UJ ez s.aY (f a0),M a0⟩)(round:∀a,J a->aw P n0 b (IE n0 J (λa=>⟨UJ ez s.aY (f a),M a⟩) μ (μ a) K) ⟨UJ ez s.aY (f a),M a⟩):aw P n0 (.loop b) K s:=
 ⟨α,J,λa=>⟨UJ ez s.aY (f a),M a⟩,μ,⟨a0,h0,start⟩,round⟩
theorem cj{n0:Nat}{b:LC}{K:Ex->St->Prop}{s:St}(ez:List Nat)(f:List (Nat×CV))(M:Mem)(hv:View n0 s ⟨UJ ez s.aY f,M⟩)(h:aw P n0 b K ⟨UJ ez s.aY f,M⟩):aw P n0 (.q9 b) K s:=⟨_,hv,h⟩
end
theorem View.o{n0:Nat}{e e':List CV}{m m':Mem}(n:Nat)(l F:List Nat)(zP:iB (sg l n) m (λk=>bc F k=true) e e')(kR:bW (sg l n) m (λk=>bc F k=true) 0 m')(hn:m.length=n:=by exact rfl)(hl:m'.length=l.length:=by exact rfl)(h0:Nat.ble n0 l.length=true:=by exact rfl)(hi:Gn l n0=true:=by exact rfl)(hd:gR l=true:=by exact rfl)(ha:eh n l=true:=by exact rfl):View n0 ⟨e,m⟩ ⟨e',m'⟩:=View.of n l F hn hl h0 hi hd ha zP kR
theorem View.o1{n0:Nat}{e e':List CV}{m m':Mem}(n:Nat)(l F:List Nat)(kR:bW (sg l n) m (λk=>bc F k=true) 0 m')(hn:m.length=n:=by exact rfl)(hl:m'.length=l.length:=by exact rfl)(h0:Nat.ble n0 l.length=true:=by exact rfl)(hi:Gn l n0=true:=by exact rfl)(hd:gR l=true:=by exact rfl)(ha:eh n l=true:=by exact rfl)(zP:iB (sg l n) m (λk=>bc F k=true) e e':=by repeat(first|exact .nil|refine .aH ?_|refine .eq rfl ?_)):View n0 ⟨e,m⟩ ⟨e',m'⟩:=View.of n l F hn hl h0 hi hd ha zP kR
theorem View.o2{n0:Nat}{e e':List CV}{m m':Mem}(n:Nat)(l F:List Nat)(kR:bW (sg l n) m (λk=>bc F k=true) 0 m')(hn:m.length=n:=by exact rfl)(hl:m'.length=l.length:=by exact rfl)(h0:Nat.ble n0 l.length=true:=by exact rfl)(hi:Gn l n0=true:=by exact rfl)(hd:gR l=true:=by exact rfl)(ha:eh n l=true:=by exact rfl)(zP:iB (sg l n) m (λk=>bc F k=true) e e':=by repeat(first|exact .nil|refine .aH ?_|refine .put (.aN (br om).symm) ?_|refine .eq rfl ?_)):View n0 ⟨e,m⟩ ⟨e',m'⟩:=View.of n l F hn hl h0 hi hd ha zP kR
theorem bW.pt{Y:Nat->Nat}{m:Mem}{F:List Nat}{k:Nat}{b b':Bk}{r:Mem}(hz:bc F (Y k)=false)(hb:dh m (Y k)=some b)(hv:oC Y m (λk=>bc F k=true) (Y k) b b')(h:bW Y m (λk=>bc F k=true) (k+1) r):bW Y m (λk=>bc F k=true) k (b' ::r):=.put (fv hz) hb hv h
theorem bW.pe{Y:Nat->Nat}{m:Mem}{F:List Nat}{k:Nat}{b b':Bk}{r:Mem}(hz:bc F (Y k)=false)(hb:dh m (Y k)=some b)(hv:b'.aN Y=b)(h:bW Y m (λk=>bc F k=true) (k+1) r)(hd:b'≠.aE:=by simp):bW Y m (λk=>bc F k=true) k (b' ::r):=.put (fv hz) hb (.eq hv hd) h
theorem bW.pm{Y:Nat->Nat}{m:Mem}{F:List Nat}{k:Nat}{b b':Bk}(hz:bc F (Y k)=false)(hb:dh m (Y k)=some b)(hv:b'.aN Y=b)(hd:b'≠.aE:=by simp):bW Y m (λk=>bc F k=true) k [b']:=.put (fv hz) hb (.eq hv hd) (.nil _)
theorem bW.pr{Y:Nat->Nat}{m:Mem}{F:List Nat}{k:Nat}{esz:Nat}{es:List (List CC)}{ds:List (List Dt)}{r:Mem}(hz:bc F (Y k)=false)(hb:dh m (Y k)=some (.row esz es))(he:es=aa ds)(h:bW Y m (λk=>bc F k=true) (k+1) r):bW Y m (λk=>bc F k=true) k (.row esz (aa ds) ::r):=.put (fv hz) hb (.bn he) h
theorem bW.pn{Y:Nat->Nat}{m:Mem}{F:List Nat}{k:Nat}{esz:Nat}{es:List (List CC)}{ds:List (List Dt)}(hz:bc F (Y k)=false)(hb:dh m (Y k)=some (.row esz es))(he:es=aa ds):bW Y m (λk=>bc F k=true) k [.row esz (aa ds)]:=.put (fv hz) hb (.bn he) (.nil _)
theorem bW.au{Y:Nat->Nat}{m:Mem}{F:List Nat}{r:Mem}(h:bW Y m (λk=>bc F k=true) 0 r:=by repeat(first|exact .nil _|refine .pr rfl rfl rfl ?_|refine .pe rfl rfl rfl ?_ (by intro h;cases h))):bW Y m (λk=>bc F k=true) 0 r:=h
theorem aP{P:Program}{f:Nat}{fn:Func}{lf:LF}{args:List CV}{m:Mem}{K:CV->Mem->Prop}(hf:P.funcs[f]? =some fn)(hl:bs P fn=some lf)(h:body P lf args m K)(hn:(fn.name== "runtime.NumGoroutine")=false:=by exact rfl)(hle:Nat.ble args.length lf.n=true:=by exact rfl):ap P f args m K:=lV hf hl hn (aav hle) h
theorem cE{P:Program}{f:Nat}{fn:Func}{lf:LF}{args:List CV}{m:Mem}{K:CV->Mem->Prop}(hf:P.funcs[f]? =some fn)(hl:bs P fn=some lf.er)(h:body P lf args m K)(hn:(fn.name== "runtime.NumGoroutine")=false:=by exact rfl)(hle:Nat.ble args.length lf.n=true:=by exact rfl):ap P f args m K:=lA hf hl hn (aav hle) h
theorem Dt.Od(d:Dt):1<=d.size:=by
 cases d with
 |val v=>cases v<;>simp[Dt.size]
 |sl e l=>simp[Dt.size]
theorem Dt.K2{l:List Dt}(h:l≠[]):1<=Dt.gH l:=by
 cases l with
 |nil=>exact absurd rfl h
 |cons d r=>simp only[Dt.gH];have:=d.Od;omega
theorem Dt.oG:∀(l:List (List Dt)),(∀e,e∈l->e≠[])->l.length<=Dt.eA l
 | [],_=>aD
 |e::r,h=>by
  have h1:=Dt.K2 (h e aD);have h2:=Dt.oG r λx hx=>h x (by simp[hx])
  simp only[Dt.eA,aa2];omega
theorem jF.ne{ls:List Lf}{ds:List Dt}(h:jF ls ds)(hl:ls≠[]):ds≠[]:=by
 cases h<;>simp_all
theorem uw{α:Type}{es:List Lf}(enc:α->List Dt)(p:α->Prop)(dec:∀e,jF es e->∃a,p a/\e=enc a):∀{elems:List (List Dt)},(∀e,e∈elems->jF es e)->∃l:List α,(∀a,a∈l->p a)/\elems=l.map enc
 | [],_=>⟨[],aD,rfl⟩
 |e::r,h=>by
  obtain⟨a,ha,rfl⟩:=dec e (h e aD);obtain⟨l,hl,rfl⟩:=uw enc p dec (elems:=r) λx hx=>h x (by simp[hx])
  exact⟨a::l,by simpa using⟨ha,hl⟩,rfl⟩
section
variable {P:Program}
def CC.iL:CC->Bool
 | .ai (.val _)=>true
 |_=>false
def B2:List CC->Bool
 | []=>true
 |c::r=>c.iL&&B2 r
def RV.iL:RV->Bool
 | .one c=>c.iL
 | .agg cs=>B2 cs
def wK:List RV->Bool
 | []=>true
 |c::r=>c.iL&&wK r
def CV.iL:CV->Bool
 | .rv r=>r.iL
 | .bG rs=>wK rs
 |_=>false
theorem xQ:∀{l:List CC},B2 l=true->∀c,c∈l->c.iL=true
 | [],_,c,h=>by simp at h
 |x::r,h,c,hc=>by
  simp only[B2,aaL]at h;rcases abI.1 hc with rfl|hc
  .exact h.1
  .exact xQ h.2 c hc
theorem vN:∀{l:List RV},wK l=true->∀c,c∈l->c.iL=true
 | [],_,c,h=>by simp at h
 |x::r,h,c,hc=>by
  simp only[wK,aaL]at h;rcases abI.1 hc with rfl|hc
  .exact h.1
  .exact vN h.2 c hc
theorem CC.jU{ρ U':bX}{w:World}{c:CC}{v:Value}(h:c.iL=true)(hd:bH ρ w .none c v):bH U' w .none c v:=by
 cases c with
 |ai d=>
  cases d with
  |val x=>
   cases hd with
   |val v hp=>exact .val _ hp
   |no a=>exact .no a
  |sl=>simp[CC.iL]at h
 |_=>simp[CC.iL]at h
theorem RV.jU{ρ U':bX}{w:World}{c:RV}{v:Value}(h:c.iL=true)(hd:ep ρ w c v):ep U' w c v:=by
 cases c with
 |one c=>exact CC.jU h hd
 |agg cs=>
  obtain⟨vs,rfl,h1,h2⟩:=hd;exact⟨vs,rfl,h1,λi c hi=>let⟨u,hu,hd⟩:=h2 i c hi;⟨u,hu,CC.jU (xQ h c (Vm hi)) hd⟩⟩
theorem CV.jU{ρ U':bX}{w:World}{c:CV}{v:Value}(h:c.iL=true)(hd:cw ρ w c v):cw U' w c v:=by
 cases c with
 |rv r=>exact RV.jU h hd
 |bG rs=>
  obtain⟨vs,rfl,h1,h2⟩:=hd;exact⟨vs,rfl,h1,λi c hi=>let⟨u,hu,hd⟩:=h2 i c hi;⟨u,hu,RV.jU (vN h c (Vm hi)) hd⟩⟩
 |_=>simp[CV.iL]at h
theorem xR{f:Nat}{args args0:List CV}{m:Mem}{K0 K:CV->Mem->Prop}(F:List Nat)(h:ap P f args0 [] K0)(dR:iB (sg [] m.length) m (λk=>bc F k=true) args args0)(hK:∀r m1,K0 r m1->r.iL=true/\K r m):ap P f args m K:=by
 refine⟨h.1,λρ w vs hM vz ZB=>?_⟩
 have gQ:∀i,sg [] m.length i<m.length->i<0:=λi h=>by simp[sg,dh]at h;omega
 obtain⟨mC,hC0,_⟩:=wJ (n0:=0) (Y:=sg [] m.length) (Z:=λk=>bc F k=true) (m':=[]) hM (λi h=>absurd h (abE i)) (λi j h _ _=>absurd h (abE i)) gQ (λi b' h=>by simp at h)
 refine(h.2 _ w vs mC (vz.trans dR.len.symm) λi c hi=>?_).mono λe w'⟨v,r,m1,ρ1,he,hk,xL,wI,hx⟩=>?_
 .obtain⟨c0,IJ,hv⟩:=dR.get i c hi;obtain⟨v,zG,hd⟩:=ZB i c0 IJ;exact⟨v,zG,hv.lR hM gQ hd⟩
 .obtain⟨hp,IN⟩:=hK r m1 hk;have k8:∀k,¬Live (ρ.vw (sg [] m.length) (λk=>bc F k=true) m 0) [] k:=λk h=>by have:=h.gO;simp at this
  have KV:eT w w':=⟨λb hb=>hx.frame b hb λk hk=>absurd hk (k8 k),hx.size,hx.os,hx.tape,hx.output⟩
  obtain⟨h1,h2⟩:=hM.IY KV;exact⟨v,r,m,ρ,he,IN,h1,CV.jU hp wI,h2⟩
end
section
variable {P:Program}
theorem CC.s9{Y:Nat->Nat}{c:CC}(h:c.cW=true):c.aN Y=c:=by
 cases c
 case fn f eG=>
  cases eG with
  |nil=>rfl
  |cons c r=>simp[CC.cW]at h
 all_goals first|rfl|simp[CC.cW]at h
theorem RV.s9{Y:Nat->Nat}{r:RV}(h:r.cW=true):r.aN Y=r:=by
 cases r with
 |one c=>exact congrArg RV.one (CC.s9 h)
 |agg cs=>
  refine congrArg RV.agg ?_
  conv=>rhs;rw[<-List.map_id cs]
  exact acE λc hc=>CC.s9 (ab6.1 h c hc)
theorem CV.DQ{Y:Nat->Nat}{v:CV}(h:v.DN=true):v.aN Y=v:=by
 cases v with
 |rv r=>exact congrArg CV.rv (RV.s9 h)
 |bG rs=>
  refine congrArg CV.bG ?_
  conv=>rhs;rw[<-List.map_id rs]
  exact acE λc hc=>RV.s9 (ab6.1 h c hc)
 |_=>rfl
theorem Bk.Oe{Y:Nat->Nat}(ds:List Dt):(Bk.var (ds.map .ai)).aN Y= .var (ds.map .ai):=by simp[Bk.aN,CC.aN,ade]
theorem Gq{m:Mem}{id:Nat}{b:Bk}(h:dh m id=some b):dt m [id] [b]=m:=by
 rw[aW]at h;simp only[dt,cf,ab9,bh];exact ab4 λi=>by
  rw[abU];split
  .rename_i hi;subst hi;have:=(Lw.1 h).1;rw[if_pos this,h]
  .rfl
theorem gk{f:Nat}{args args0:List CV}{m:Mem}{cs:List Dt}{r0:CV}{K:CV->Mem->Prop}(id:Nat)(hb:dh m id=some (.var (cs.map .ai)))(dR:args=args0.map (CV.aN (sg [id] m.length)))(hr:r0.DN=true)(h:∀K:CV->Mem->Prop,K r0 [.var (cs.map .ai)]->ap P f args0 [.var (cs.map .ai)] K)(hK:K r0 m):ap P f args m K:=by
 have hid:id<m.length:=by rw[aW]at hb;exact(Lw.1 hb).1
 refine be (K0:=λr m1=>r=r0/\m1=[.var (cs.map .ai)]) [id] m.length rfl rfl rfl ?_ dR (λi b' hi=>?_) (h _ ⟨rfl,rfl⟩) (λr m1 C7=>?_)
 .simp[eh,hid]
 .cases i with
  |zero=>
   simp at hi;subst hi;refine .inr ⟨λh=>h,.var (cs.map .ai),?_,.k9 rfl⟩
   rw[aW]at hb;exact hb
  |succ i=>simp at hi
 .obtain⟨rfl,rfl⟩:=C7;refine⟨aai _,?_⟩;rw[CV.DQ hr];have:dt m [id] (s8 (sg [id] m.length) [.var (cs.map .ai)])=m:=by show dt m [id] [Bk.aN _ _]=m;rw[Bk.Oe];exact Gq hb
  rw[this];exact hK
theorem fB{f:Nat}{args:List CV}{cs:List Dt}{r0:CV}{K:CV->Mem->Prop}(hr:r0.DN=true)(h:ap P f args [.var (cs.map .ai)] λr m=>r=r0/\∃ex,m= .var (cs.map .ai)::ex)(hK:K r0 [.var (cs.map .ai)]):ap P f args [.var (cs.map .ai)] K:=by
 refine bK h λr m1⟨h1,ex,h2⟩=>⟨r0,[.var (cs.map .ai)],?_,hK⟩
 subst h1;subst h2;refine View.of (ex.length+1) [0] [] aD rfl rfl rfl rfl (by simp[eh]) ?_ ?_
 .exact .eq (CV.DQ hr) .nil
 .exact .put (by simp[bc]) rfl (.k9 rfl) (.nil _)
theorem oC.uy{Y:Nat->Nat}{m:Mem}{Z:Nat->Prop}{id s:Nat}{R R':List (List CC)}{x y:List CC}(hR:R'.map (λcs=>cs.map (CC.aN Y))=R)(hx:x.length=y.length)(NU:∀(j:Nat)c c',x[j]? =some c->y[j]? =some c'->sZ Y m Z (some id) c c'):oC Y m Z id (.row s (R++ [x])) (.row s (R'++ [y])):=by
 subst hR;refine .row s aD (λi cs fg h1 h2=>?_) (λi cs fg j c c' h1 h2 h3 h4=>?_)
 .rcases aax i R'.length with h|h
  .rw[aaW (by simpa using h),Qu]at h1
   rw[aaW h]at h2;rw[h2]at h1;cases h1;simp
  .rw[aaS (by simpa using h),O9]at h1
   rw[aaS h]at h2;cases hi:i-R'.length with
   |zero=>
    rw[hi]at h1 h2;cases h1;cases h2;exact hx
   |succ n=>rw[hi]at h1;simp at h1
 .rcases aax i R'.length with h|h
  .rw[aaW (by simpa using h),Qu]at h1
   rw[aaW h]at h2;rw[h2]at h1;cases h1;rw[Qu,h4]at h3;cases h3;exact .aN c'
  .rw[aaS (by simpa using h),O9]at h1
   rw[aaS h]at h2;cases hi:i-R'.length with
   |zero=>
    rw[hi]at h1 h2;cases h1;cases h2;exact NU j c c' h3 h4
   |succ n=>rw[hi]at h1;simp at h1
theorem bW.AN{Y:Nat->Nat}{m:Mem}{Z:Nat->Prop}{k:Nat}{b:Bk}{r:Mem}(hz:¬Z (Y k))(hb:dh m (Y k)=some b)(hr:b.aN Y=b)(h:bW Y m Z (k+1) r):bW Y m Z k (b::r):=by
 cases b with
 |aE=>exact .aE h
 |_=>exact .put hz hb (.eq hr aD) h
inductive DR:CC->CC->Prop
 |cO (c:CC):DR c c
 |bt (s:Nat):DR .bt (.ai (.sl s []))
 |no:DR .bt (.ai (.val (.slice none 0 0)))
theorem DR.lR{c c':CC}(h:DR c c'){ρ:bX}{w:World}{v:Value}(hd:bH ρ w none c v):bH ρ w none c' v:=by
 cases h with
 |cO=>exact hd
 |bt s=>
  obtain⟨a,rfl⟩:=hd;exact .nil s a 0 (WG _)
 |no=>
  obtain⟨a,rfl⟩:=hd;exact .no a
inductive DT:List CC->List CC->Prop
 |nil:DT [] []
 |cons {c c':CC} {r r':List CC} (h:DR c c') (t:DT r r'):DT (c::r) (c'::r')
theorem DT.len{a b:List CC}(h:DT a b):a.length=b.length:=by
 induction h<;>simp[*]
theorem DT.get{a b:List CC}(h:DT a b):∀(i:Nat)c',b[i]? =some c'->∃c,a[i]? =some c/\DR c c':=by
 induction h with
 |nil=>intro i c' h;simp at h
 |cons h t ih=>
  intro i c' hi;cases i with
  |zero=>simp at hi;subst hi;exact⟨_,rfl,h⟩
  |succ i=>simpa using ih i c' (by simpa using hi)
inductive kJ:List CV->List CV->Prop
 |nil:kJ [] []
 |cO (c:CV) {r r':List CV} (t:kJ r r'):kJ (c::r) (c::r')
 |one {c c':CC} {r r':List CV} (h:DR c c') (t:kJ r r'):kJ (.rv (.one c)::r) (.rv (.one c')::r')
 |agg {cs fg:List CC} {r r':List CV} (h:DT cs fg) (t:kJ r r'):kJ (.rv (.agg cs)::r) (.rv (.agg fg)::r')
theorem kJ.len{a b:List CV}(h:kJ a b):a.length=b.length:=by
 induction h<;>simp[*]
theorem kJ.get{a b:List CV}(h:kJ a b):∀(i:Nat)c',b[i]? =some c'->∃c,a[i]? =some c/\∀ρ w v,cw ρ w c v->cw ρ w c' v:=by
 induction h with
 |nil=>intro i c' h;simp at h
 |cO c t ih=>
  intro i c' hi;cases i with
  |zero=>simp at hi;subst hi;exact⟨_,rfl,λ_ _ _ h=>h⟩
  |succ i=>simpa using ih i c' (by simpa using hi)
 |one h t ih=>
  intro i c' hi;cases i with
  |zero=>simp at hi;subst hi;exact⟨_,rfl,λ_ _ _ hd=>h.lR hd⟩
  |succ i=>simpa using ih i c' (by simpa using hi)
 |agg h t ih=>
  intro i c' hi;cases i with
  |zero=>
   simp at hi;subst hi;refine⟨_,rfl,λρ w v hd=>?_⟩
   obtain⟨vs,hv,hl,hc⟩:=hd;exact⟨vs,hv,hl.trans h.len,λi c' hi=>let⟨c,sF,hle⟩:=h.get i c' hi;let⟨u,hu,cI⟩:=hc i c sF;⟨u,hu,hle.lR cI⟩⟩
  |succ i=>simpa using ih i c' (by simpa using hi)
theorem jd{f:Nat}{args iQ:List CV}{m:Mem}{K:CV->Mem->Prop}(ha:kJ args iQ)(h:ap P f iQ m K):ap P f args m K:=by
 refine⟨h.1,λρ w vs hM hl hd=>h.2 ρ w vs hM (hl.trans ha.len) λi c' hi=>?_⟩
 obtain⟨c,hc,NP⟩:=ha.get i c' hi;obtain⟨v,hv,zq⟩:=hd i c hc;exact⟨v,hv,NP _ _ _ zq⟩
theorem ek{f:Nat}{args iQ:List CV}{m m':Mem}{K:CV->Mem->Prop}(hv:View m.length ⟨args,m⟩ ⟨iQ,m'⟩)(h:ap P f iQ m' K):ap P f args m K:=by
 refine⟨h.1,λρ w vs hM hl hd=>?_⟩
 obtain⟨U',nA,hc,zq⟩:=hv.go ρ w hM;have hlen:iQ.length=args.length:=hv.len;refine(h.2 U' w vs nA (hl.trans hlen.symm) λi c' hi=>?_).mono λe w'⟨v,r,m1,ρ1,he,hk,xL,wI,hx⟩=>?_
 .obtain⟨c,IJ,BP⟩:=zq i c' hi;obtain⟨v,hv,cD⟩:=hd i c IJ;exact⟨v,hv,BP v cD⟩
 .have YV:Ext ρ m w U' m' w:=⟨by rw[hM.n,nA.n];exact hv.hn,λid hid=>hc.aV id (by rw[<-hM.n];exact hid),hc.S,λb hb=>(hc.S' b hb).elim .inl λh=>.inr (.inr h),λk hk=>.inr (hc.aF k hk),λ_ _ _=>rfl,aai _,rfl,rfl,rfl⟩
  exact⟨v,r,m1,ρ1,he,hk,xL,wI,YV.trans hx⟩
end
def LC.gp:List Nat->LC->LC
 | [],c=>c
 | [0],c=>.q9 c
 |0::p,.seq a b=>.seq (a.gp p) b
 |(n+1)::p,.seq a b=>.seq a (b.gp (n::p))
 |0::p,.cond x a b=>.cond x (a.gp p) b
 |(n+1)::p,.cond x a b=>.cond x a (b.gp (n::p))
 |0::p,.block i a=>.block i (a.gp p)
 |0::p,.loop a=>.loop (a.gp p)
 |0::p,.q9 a=>.q9 (a.gp p)
 |_,c=>c
def ZE(ops:List Oper):Option (Nat×Bool)->Option (Option (Nat×Bool))
 |none=>some none
 |some (j,b)=>match dh ops j with
  |some o=>match o.dst with
   |some d=>some (some (d,b))
   |none=>none
  |none=>none
def Gr(P:Program)(ops:List Oper):List Oper->Option (List LO)
 | []=>some []
 |o::r=>match sB P o,ZE ops o.guard with
  |some i,some g=>match Gr P ops r with
   |some l=>some (⟨o.dst,i,g⟩::l)
   |none=>none
  |_,_=>none
def xS(P:Program):Code->List (List mJ)->Option (LC×List (List mJ))
 | .skip,s=>some (.skip,s)
 | .region _ ops true,s=>match s with
  | []=>none
  |t::s=>do some (.iK (<-Gr P ops.toList ops.toList) t,s)
 | .region _ ops false,s=>do some (.qU (<-Gr P ops.toList ops.toList),s)
 | .seq a b,s=>match xS P a s with
  |none=>none
  |some (a,s)=>match xS P b s with
   |none=>none
   |some (b,s)=>some (.seq a b,s)
 | .cond x a b,s=>match bD x,xS P a s with
  |some x,some (a,s)=>match xS P b s with
   |none=>none
   |some (b,s)=>some (.cond x a b,s)
  |_,_=>none
 | .block id b,s=>match xS P b s with
  |none=>none
  |some (b,s)=>some (.block id b,s)
 | .loop b,s=>match xS P b s with
  |none=>none
  |some (b,s)=>some (.loop b,s)
 | .exit id,s=>some (.exit id,s)
 | .ret,s=>some (.ret,s)
 |_,_=>none
def ZF(P:Program)(fn:Func)(g:List (List Nat))(s:List (List mJ)):Option LF:=do
 some ⟨fn.ntmps,<-ov P fn.results.toList,g.foldl (λc p=>c.gp p) (<-xS P (<-fn.body) s).1⟩
theorem adG(n:Nat):Int.ofNat (no_index (OfNat.ofNat n))=(OfNat.ofNat n:Int):=rfl
theorem adH:Int.negSucc 0= -1:=rfl
theorem adI{α:Type}(l:List α):Array.mk l=l.toArray:=rfl
abbrev Cq(P:Program)(f:Func)(g:List (List Nat))(s:List (List mJ)){c:LF}(_:ZF P f g s=some c:=by conv=>lhs;reduce;try dsimp only[adG,adH,adI]):LF:=c
end Go.AM
