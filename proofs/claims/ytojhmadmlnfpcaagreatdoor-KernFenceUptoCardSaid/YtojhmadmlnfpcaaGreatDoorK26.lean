/- Part 26 of 43: what the law stands on. -/
import Derived.Test.YtojhmadmlnfpcaaGreatDoorK16
import Derived.Test.YtojhmadmlnfpcaaGreatDoorK17
import Derived.Test.YtojhmadmlnfpcaaGreatDoorK18
import Derived.Test.YtojhmadmlnfpcaaGreatDoorK23
import Derived.Test.YtojhmadmlnfpcaaGreatDoorK25
set_option linter.unusedVariables false
set_option linter.unusedSimpArgs false
set_option linter.unnecessarySimpa false
set_option maxRecDepth 100000
set_option maxHeartbeats 64000000
namespace Go.Proofs.YtojhmadmlnfpcaaGreatDoor
open Go.AM Go.ChangeShapes Go.WideShapes Go.ChangeAt Go.RowKit
def Y4:Ob:=⟨0,[],[],⟨#[]⟩,0,noD,0,0,0⟩
def li(l:List Ob)(n:Nat):Ob:=(l[n]?).getD Y4
theorem sR{l:List Ob}{n:Nat}(h:n<l.length):li l n=l[n]:=by rw[li,aab h];rfl
structure R4 where
 bv:Int
 cL:Int
 name:bJ.dN
 iL:Int
def R4.no(e:Int):R4:=⟨0,0,[],e⟩
def iA(o:Ob):List NE:=o.ak.map nu
def l4(l:List Ob)(dm:Nat)(w:bJ.dN):Int:=fx (iA (li l dm)) (bJ.cz w)
def Aw(l:List Ob)(dm:Nat):Nat:=(li l dm).up.toNat
def Hr(l:List Ob)(ax:Nat)(aA follow:Bool)(rec:Nat->List bJ.dN->Nat->R4):List bJ.dN->Nat->R4
 | [],a=>⟨a,Aw l a,[],0⟩
 |w::rest,a=>
  if(li l a).ah≠2 then R4.no 11
  else if w=[46,46]then(if aA=true/\a=ax then R4.no 14 else Hr l ax aA follow rec rest (Aw l a))
  else if l4 l a w<0 then(if rest≠[]then R4.no 6 else⟨-1,a,w,0⟩)
  else if(li l (l4 l a w).toNat).ah=3/\(follow=true\/rest≠[])then rec a rest (l4 l a w).toNat
  else if rest=[]then⟨l4 l a w,a,w,0⟩
  else Hr l ax aA follow rec rest (l4 l a w).toNat
def MB(l:List Ob)(k:Nat):bJ.dN:=(li l k).target.data.toList
def Pl(l:List Ob)(aA:Bool)(wk:List bJ.dN->Nat->R4)(a:Nat)(rest:List bJ.dN)(k:Nat):R4:=
 if(bJ.cG (MB l k)).2.2≠0 then R4.no (bJ.cG (MB l k)).2.2
 else if(bJ.cG (MB l k)).2.1=true/\aA=true then R4.no 14
 else wk ((bJ.cG (MB l k)).1++rest) (if(bJ.cG (MB l k)).2.1=true then 0 else a)
def Bt(l:List Ob)(ax:Nat)(aA follow:Bool):Nat->List bJ.dN->Nat->R4
 |0=>Hr l ax aA follow fun _ _ _=>R4.no 13
 |n+1=>Hr l ax aA follow (Pl l aA (Bt l ax aA follow n))
def pq(l:List Ob)(ax:Int)(s:bJ.dN)(aA follow:Bool):R4:=
 if oe l ax 0=true then
  if(li l ax.toNat).ah≠2 then R4.no 11
  else if(bJ.cG s).2.2≠0 then R4.no (bJ.cG s).2.2
  else if(bJ.cG s).2.1=true/\aA=true then R4.no 14
  else Bt l ax.toNat aA follow 6 (bJ.cG s).1 (if(bJ.cG s).2.1=true then 0 else ax.toNat)
 else R4.no 6
structure na(l:List Ob):Prop where
 len:l.length<=64
 pos:0<l.length
 en:∀o,o∈l->U8 l.length o.ah o.ak
 ne:∀o,o∈l->o.ak.length<=64
 up:∀o,o∈l->0<=o.up/\o.up<l.length
theorem na.Ss{l:List Ob}(h:na l)(n:Nat):Aw l n<l.length:=by
 rw[Aw,li];cases hn:l[n]? with
 |none=>show(0:Int).toNat<l.length;have:=h.pos;simpa using this
 |some o=>have:=h.up o (aag hn);show o.up.toNat<l.length;omega
theorem na.MC{l:List Ob}(h:na l){n:Nat}(hn:n<l.length):l[n].up=(Aw l n:Nat):=by rw[Aw,sR hn];have:=h.up _ (aau hn);omega
theorem na.eh{l:List Ob}(h:na l)(n:Nat):EM (iA (li l n))/\(∀e,e∈iA (li l n)->0<=e.2/\e.2<(l.length:Int))/\(iA (li l n)).length<=64/\∀hn:n<l.length,l[n].ak=(iA (li l n)).map fq:=by
 rw[li];cases hn:l[n]? with
 |none=>
  refine⟨List.Pairwise.nil,by simp[iA,Y4],by simp[iA,Y4],fun h=>?_⟩
  rw[aab h]at hn;cases hn
 |some o=>
  obtain⟨es,h1,h2,h3,h4⟩:=(h.en o (aag hn)).ex;have h5:iA o=es:=by rw[iA,h1,m6]
  show EM (iA o)/\(∀e,e∈iA o->_)/\(iA o).length<=64/\∀hn:n<l.length,l[n].ak=(iA o).map fq;rw[h5];refine⟨h2,h3,?_,fun h=>?_⟩
  .have:=h.ne o (aag hn);rw[h1,aad]at this;exact this
  .rw[aab h]at hn;cases hn;exact h1
theorem na.Su{l:List Ob}(h:na l)(n:Nat)(w:bJ.dN)(hf:¬l4 l n w<0):∃k:Nat,l4 l n w=k/\k<l.length:=by
 obtain⟨_,h2,_,_⟩:=h.eh n;rcases ju (iA (li l n)) (bJ.cz w)with⟨e,he,_,h3⟩|⟨h3,_⟩
 .obtain⟨h4,h5⟩:=h2 e he;exact⟨e.2.toNat,by rw[l4,h3];omega,om⟩
 .rw[l4,h3]at hf;omega
theorem MD{a b:ByteArray}:kV a b<0↔z8 a b:=by
 unfold kV z8;by_cases h:Q1 a b=true
 .rw[if_pos h];exact⟨fun _=>h,fun _=>om⟩
 .rw[if_neg h];refine⟨fun h2=>?_,fun h2=>absurd h2 h⟩
  split at h2<;>omega
theorem wn{a b:ByteArray}:kV a b=0↔a.toList=b.toList:=by
 unfold kV;by_cases h:Q1 a b=true
 .rw[if_pos h];refine⟨fun h2=>om,fun h2=>?_⟩
  rw[Q1,h2,od]at h;cases h
 .rw[if_neg h];rw[ab1]at h;by_cases h2:Ts a b=true
  .rw[if_pos h2];refine⟨fun h3=>om,fun h3=>?_⟩
   unfold Ts at h2;rw[h3]at h2;simp at h2
  .rw[if_neg h2];refine⟨fun _=>?_,fun _=>rfl⟩
   unfold Ts at h2;unfold Q1 at h;rw[h]at h2;simpa using h2
theorem ov{es:List NE}(hs:EM es)(s:ByteArray):∀(n i j:Nat),j-i<=n->i<=j->j<=es.length->(∀(k:Nat)e,k<i->es[k]? =some e->z8 e.1 s)->(∀(k:Nat)e,j<=k->es[k]? =some e->¬z8 e.1 s)->
  I7 es s n i j<=es.length/\(∀(k:Nat)e,k<I7 es s n i j->es[k]? =some e->z8 e.1 s)/\∀(k:Nat)e,I7 es s n i j<=k->es[k]? =some e->¬z8 e.1 s
 |0,i,j,hn,pM,hj,h1,h2=>by have:i=j:=om;subst this;exact⟨hj,h1,h2⟩
 |n+1,i,j,hn,pM,hj,h1,h2=>by
  rw[I7];by_cases aC:i<j
  .rw[if_pos aC];have hh:(i+j)/2<es.length:=om;rw[aab hh];simp only[];have hp:=abi.1 hs;by_cases hc:kV es[(i+j)/2].1 s<0
   .rw[if_pos hc];refine ov hs s n _ _ om om hj (fun k e hk he=>?_) h2
    have gZ:=MD.1 hc;obtain⟨fP,rfl⟩:=aac.1 he;rcases aaq k ((i+j)/2)with h3|h3
    .exact ri (hp k _ fP hh h3) gZ
    .have:k=(i+j)/2:=om;subst this;exact gZ
   .rw[if_neg hc];refine ov hs s n _ _ om om om h1 fun k e hk he hl=>?_
    have gZ:¬z8 es[(i+j)/2].1 s:=fun h=>hc (MD.2 h)
    obtain⟨fP,rfl⟩:=aac.1 he;rcases aaq ((i+j)/2) k with h3|h3
    .exact gZ (ri (hp _ k hh fP h3) hl)
    .have:k=(i+j)/2:=om;subst this;exact gZ hl
  .rw[if_neg aC];have:i=j:=om;subst this;exact⟨hj,h1,h2⟩
theorem Hs{es:List NE}(hs:EM es)(s:ByteArray):Aa es s (if Aq es s=true then(match es[pT es s]? with|some e=>e.2|none=>0)else -1):=by
 obtain⟨h0,h1,h2⟩:=ov hs s es.length 0 es.length om om om (fun k e hk=>absurd hk (aaL k)) (fun k e hk he=>by have:=(aac.1 he).1;omega)
 have hI:I7 es s es.length 0 es.length=pT es s:=rfl;rw[hI]at h0 h1 h2;unfold Aq;cases he:es[pT es s]? with
 |none=>
  simp only[];rw[if_neg aG];refine .inr ⟨rfl,fun e hm heq=>?_⟩
  obtain⟨k,hk⟩:=aam hm;have fP:=(aac.1 hk).1;have:es.length<=pT es s:=ab7.1 he;have:=h1 k e om hk;rw[z8,heq,od]at this;cases this
 |some e=>
  simp only[];by_cases hc:kV e.1 s=0
  .rw[if_pos (by rw[hc];rfl)]
   exact .inl ⟨e,aag he,wn.1 hc,rfl⟩
  .rw[if_neg (by simpa using hc)]
   refine .inr ⟨rfl,fun e' hm heq=>?_⟩
   obtain⟨k,hk⟩:=aam hm;obtain⟨fP,Ac⟩:=aac.1 hk;obtain⟨Ll,nM⟩:=aac.1 he;rcases ach k (pT es s)with h3|h3|h3
   .have:=h1 k e' h3 hk;rw[z8,heq,od]at this;cases this
   .subst h3;rw[he]at hk;cases hk;exact hc (wn.2 heq)
   .have hp:=abi.1 hs _ k Ll fP h3;rw[nM,Ac]at hp;have kM:=h2 _ e (aaj _) he;apply kM;rw[z8,<-heq];exact hp
theorem Ax(d:List (List Dt))(hb:d.length<=4194304):body Tryz.prog c104 [rd 1 d] [] (fun r m=>∃r' m',View 0 ⟨[r],m⟩ ⟨[r'],m'⟩/\r'= .rv (.one (.row 0 1 0 none))/\m'=[.row 1 (af d)]):=by
 have rR:((([]:List (List CC)).length+(d.map fun ds=>ds.map CC.aa).length)*1)<=140737488355328:=by simp;omega
 have fS:∃r' m',View 0 ⟨[CV.rv (.one (.row 1 1 0 none))],[.bh,.row 1 (cw ([]:List (List CC)) 0 none++d.map fun ds=>ds.map CC.aa)]⟩ ⟨[r'],m'⟩/\r'=CV.rv (.one (.row 0 1 0 none))/\m'=[Bk.row 1 (af d)]:=
  ⟨_,_,View.o 2 [1] [] (.eq rfl .nil) (.pn rfl rfl rfl),rfl,rfl⟩
 refine aE (fun h=>?_) (fun h=>?_)
 .have hd:d=[]:=aat (by simpa using aav h)
  refine⟨?_,rR,fS⟩;subst hd;exact⟨_,_,View.aI 0 1 0 rfl rfl rfl,rfl,rfl⟩
 .exact⟨rR,fS⟩
theorem gU(σ:Nat->Nat)(ds:List (List Dt)):(af ds).map (fun cs=>cs.map (CC.aQ σ))=af ds:=by simp[af,abU,CC.aQ]
theorem Fp(d:List (List Dt))(hb:d.length<=4194304){m:Mem}{K:CV->Mem->Prop}(h:K (.rv (.one (.row m.length 1 0 none))) (m++ [.row 1 (af d)])):ar Tryz.prog 104 [rd 1 d] m K:=by
 refine bC [] m.length rfl rfl rfl rfl (args0:=[rd 1 d]) rfl (fun i b' hi=>by simp at hi) (K0:=fun r m=>r= .rv (.one (.row 0 1 0 none))/\m=[.row 1 (af d)]) (bN (aZ Tryz.func104 l104 (Ax d hb)) fun r m1 h=>h) (fun r m1 hr=>?_)
 obtain⟨rfl,rfl⟩:=hr;refine⟨aao _,?_⟩;show K (.rv (.one (.row (m.length+(0-0)) 1 0 none))) (iI m [.row 1 ((af d).map (fun cs=>cs.map (CC.aQ (sg [] m.length))))])
 rw[gU,cr];exact h
def nK(Q:Nat)(o:Obj):List CC:=[.aa (.val (.int .i64 o.ah)),.row Q 1 0 none,.aa (.sl 2 o.ak),.aa (.val (.string o.target)),.aa (.val (.int .i64 o.aJ)),
 .aa (.sl 4 (o.aj.map bw.enc)),.aa (.val (.int .i64 o.aL)),.aa (.val (.int .i64 o.am)),.aa (.val (.int .i64 o.up))]
def Y5(o:Obj):Nat->Mem
 |0=>[.row 9 [],.bh]
 |_+1=>[.row 9 [nK 1 o],.row 1 (af o.data)]
theorem Jc(o:Obj)(hf:o.mP):body Tryz.prog c105 [cg [o]] [] (fun r m=>r= .rv (.one (.row 0 9 0 none))/\m=[.row 9 [nK 1 o],.row 1 (af o.data)]):=by
 obtain⟨ah,data,ak,target,aJ,aj,aL,am,up⟩:=o;obtain⟨LG,EI,Of,Ki⟩:=hf;have LG:data.length<=4194304:=LG;have EI:ak.length<=4194304:=EI;have Of:aj.length<=4194304:=Of;have Ki:∀q,q∈aj->q.data.length<=4194304:=Ki;refine aO (fun k=>k<=1) [0,9,10] (fun k=>[(11,an .i64 (k:Nat)),(3,.rv (.one (.row 0 9 0 none)))]) (Y5 ⟨ah,data,ak,target,aJ,aj,aL,am,up⟩) (fun k=>1-k) 0 (aao _) ?_ (fun k hk=>?_)
 .refine View.trans (View.aI 2 4 0 rfl rfl rfl) (View.trans (View.aI 3 9 1 rfl rfl rfl) (View.o1 2 [1,0] [] ?_))
  .exact .put (by simp[bq]) rfl (.eq rfl aG) (.bh (.nil _))
 have hk:k<=1:=hk
 match k,hk with
 |0,_=>
  refine Fp data LG ?_;refine⟨⟨rfl,trivial⟩,?_⟩;refine sw ak EI ?_;refine⟨trivial,?_⟩;refine⟨trivial,?_⟩;refine⟨trivial,?_⟩;refine aO (fun j=>j<=aj.length) [0,3,5,9,10,11,24,25] (fun j=>[(26,an .i64 (j:Nat)),(6,.rv (.one (.row 4 4 0 none)))])
    (fun j=>[.row 9 [],.bh,.var (nK 3 ⟨ah,data,ak,target,aJ,aj,aL,am,up⟩),.row 1 (af data),.row 4 (af ((aj.take j).map bw.enc))]) (fun j=>aj.length-j) 0 (aao _) ?_ (fun j hj=>?_)
  .refine View.trans (View.aI 6 4 4 rfl rfl rfl) (View.o1 5 [0,1,2,3,4] [] ?_)
   .exact .pe rfl rfl rfl (.bh (.pe rfl rfl rfl (.pr rfl rfl rfl (.pn rfl rfl rfl))))
  have hj:j<=aj.length:=hj;refine aB (fun h=>?_) (fun h=>?_)
  .have dA:j<aj.length:=by have h:(j:Int)<((aj.map bw.enc).length:Int):=h;rw[aad]at h;omega
   have xV:=aab dA;have IK:=Ki _ (aau dA);generalize aj[j]=q at xV IK;obtain⟨qd,qh,qo,qr⟩:=q;have ur:cy (aj.map bw.enc) (j:Nat)=some [.sl 1 qd,.val (.bool qh),.val (.int .i64 qo),.val (.int .i64 qr)]:=by rw[bl,aaf,xV];rfl
   refine ag ur ?_;refine hB qd IK ?_;refine⟨?_,?_⟩
   .show((af ((aj.take j).map bw.enc)).length+1)*48<=_;simp[af];omega
   refine⟨j+1,dA,(show aj.length-(j+1)<aj.length-j by omega),View.o 8 [0,1,2,3,7] [] ?_ ?_⟩
   .repeat(first|exact .nil|refine .ap ?_|refine .put (.aQ (aq om).symm) ?_|refine .eq rfl ?_)
   .refine .pe rfl rfl rfl (.bh (.pe rfl rfl rfl (.pr rfl rfl rfl (.pt rfl rfl (.bV ?_) (.nil _)))));rw[ph xV,aaU,cD];rfl
  .have ei:¬(j:Int)<((aj.map bw.enc).length:Int):=h;rw[aad]at ei;have hq:aj.take j=aj:=abm om;refine⟨by show(0+1)*128<=140737488355328;omega,?_⟩
   refine⟨1,aaj 1,(show 1-1<1-0 by omega),View.o 7 [6,3] [4] ?_ ?_⟩
   .repeat(first|exact .nil|refine .ap ?_|refine .put (.aQ (aq om).symm) ?_|refine .eq rfl ?_)
   .refine .pt rfl rfl (mZ.EG (R:=[]) (R':=[]) rfl rfl ?_) (.pn rfl rfl rfl);intro j' c c' h1 h2;have e5:nK 1 ⟨ah,data,ak,target,aJ,aj,aL,am,up⟩=[.aa (.val (.int .i64 ah)),.row 1 1 0 none,.aa (.sl 2 ak),.aa (.val (.string target)),.aa (.val (.int .i64 aJ)),.aa (.sl 4 ((aj.take j).map bw.enc)),.aa (.val (.int .i64 aL)),.aa (.val (.int .i64 am)),.aa (.val (.int .i64 up))]:=by simp[nK,hq]
    rw[e5]at h2
    match j',h1,h2 with
    |0,h1,h2=>cases h1;cases h2;exact .aQ (.aa _)
    |1,h1,h2=>cases h1;cases h2;exact .aQ (.row 1 1 0 none)
    |2,h1,h2=>cases h1;cases h2;exact .aQ (.aa _)
    |3,h1,h2=>cases h1;cases h2;exact .aQ (.aa _)
    |4,h1,h2=>cases h1;cases h2;exact .aQ (.aa _)
    |5,h1,h2=>cases h1;cases h2;exact .fv (dP.eE (Z:=fun k=>bq [4] k=true) rfl (by rw[<-aX];rfl) 0 none)
    |6,h1,h2=>cases h1;cases h2;exact .aQ (.aa _)
    |7,h1,h2=>cases h1;cases h2;exact .aQ (.aa _)
    |8,h1,h2=>cases h1;cases h2;exact .aQ (.aa _)
    |n+9,h1,h2=>simp at h1
 |1,_=>exact⟨rfl,rfl⟩
theorem MF{σ:Nat->Nat}(Q:Nat)(o:Obj):(nK Q o).map (CC.aQ σ)=nK (σ Q) o:=by simp[nK,CC.aQ]
theorem Pm(o:Obj)(hf:o.mP){m:Mem}{K:CV->Mem->Prop}(h:K (.rv (.one (.row m.length 9 0 none))) (m++ [.row 9 [nK (m.length+1) o],.row 1 (af o.data)])):ar Tryz.prog 105 [cg [o]] m K:=by
 refine bC [] m.length rfl rfl rfl rfl rfl (fun i b' hi=>by simp at hi) (aZ Tryz.func105 l105 (Jc o hf)) (fun r m1 hr=>?_)
 obtain⟨rfl,rfl⟩:=hr;refine⟨aao _,?_⟩;show K (.rv (.one (.row (m.length+(0-0)) 9 0 none))) (iI m [.row 9 [(nK 1 o).map (CC.aQ (sg [] m.length))],.row 1 ((af o.data).map (fun cs=>cs.map (CC.aQ (sg [] m.length))))])
 rw[MF,gU,cr];exact h
def c64:LF:= ⟨43,[.tmp 6,.tmp 7],(.seq (.ai [qu 3 (.box 0),qu 6 (.aD qe),qu 7 (.aD (qi 0))]) (.seq (.block 0 (.seq (.ai [qf 10 0 3,ql 11 10,qu 12 (.aF .eql 11 (qi 2)),qm 9 12]) (.cond 9 (.seq (.ai [qu 6 (.aD qe),qu 7 (.aD (qi 12))]) .ret) (.seq (.ai [qf 14 0 3,ql 15 14,qu 16 (.aF .neq 15 (qi 1)),qm 13 16]) (.cond 13 (.seq (.ai [qu 6 (.aD qe),qu 7 (.aD (qi 8))]) .ret) (.seq (.ai [qm 18 1,qu 19 (.aF .lss 18 (qi 0)),qm 20 19,qg 21 (.aD 2) 20 false,qg 22 (.aF .lss 21 (qi 0)) 20 false,qu 23 (.pick 20 (qb true) 22),qm 17 23]) (.cond 17 (.seq (.ai [qu 6 (.aD qe),qu 7 (.aD (qi 3))]) .ret) .skip))))))) (.seq (.ai [qm 24 1,qf 25 1 3,ql 26 25,qu 27 (.len 1 26),qu 28 (.jA false [24,27]),qm 8 28]) (.seq (.ai [qf 29 1 3,ql 30 29,qm 31 8,qm 32 8,qm 33 2,qf 34 1 3,ql 35 34,qu 36 (.len 1 35),qm 37 8,qu 38 (.aF .sub 36 37),qu 39 (.jA false [33,38]),qu 40 (.aF .add 32 39),qu 41 (.nN 1 30 (some 31) (some 40) none),qu 42 (qc 104 [41]),qm 6 42,qu 7 (.aD (qi 0))]) .ret))))⟩
theorem l64:bs Tryz.prog Tryz.f64=some c64:=by kernel_rfl
def fc(a b:Nat):Nat:=if b<a then b else a
theorem ry(a b:Nat):(if(b:Int)<(a:Int)then(b:Int)else(a:Int))=((fc a b:Nat):Int):=by unfold fc;split<;>split<;>omega
theorem nb(a b:Nat):fc a b<=a/\fc a b<=b:=by unfold fc;split<;>omega
def Jd(d:List (List Dt))(dm n:Nat):List (List Dt):=(d.take (fc dm d.length+fc n (d.length-fc dm d.length))).drop (fc dm d.length)
def jv(ah:Int)(d:List (List Dt))(dm n:Int):List (List Dt)×Int:=
 if ah=2 then([],12)else if ah≠1 then([],8)else if dm<0\/n<0 then([],3)else(Jd d dm.toNat n.toNat,0)
def Y6(d:List (List Dt)):RV:= .one (.aa (.sl 1 d))
def c65:LF:= ⟨68,[.cell true 9 6,.tmp 7],(.seq (.ai [qu 3 (.box 0),qu 6 (.alloc [(qd 0),.aI,.aI,(.aa (.val (.string ⟨#[]⟩))),(qd 0),.aI,(qd 0),(qd 0),(qd 0)]),qu 7 (.aD (qi 0))]) (.seq (.block 0 (.seq (.ai [qf 10 0 3,ql 11 10,qu 12 (.aF .eql 11 (qi 2)),qm 9 12]) (.cond 9 (.seq (.ai [qu 13 (.build [(qd 0),.aI,.aI,(.aa (.val (.string ⟨#[]⟩))),(qd 0),.aI,(qd 0),(qd 0),(qd 0)] []),qw (.store 9 6 13),qu 7 (.aD (qi 12))]) .ret) (.seq (.ai [qf 15 0 3,ql 16 15,qu 17 (.aF .neq 16 (qi 1)),qm 14 17]) (.cond 14 (.seq (.ai [qu 18 (.build [(qd 0),.aI,.aI,(.aa (.val (.string ⟨#[]⟩))),(qd 0),.aI,(qd 0),(qd 0),(qd 0)] []),qw (.store 9 6 18),qu 7 (.aD (qi 8))]) .ret) (.seq (.ai [qm 20 1,qu 21 (.aF .lss 20 (qi 0)),qm 19 21]) (.cond 19 (.seq (.ai [qu 22 (.build [(qd 0),.aI,.aI,(.aa (.val (.string ⟨#[]⟩))),(qd 0),.aI,(qd 0),(qd 0),(qd 0)] []),qw (.store 9 6 22),qu 7 (.aD (qi 3))]) .ret) (.seq (.ai [qm 24 1,qu 25 (.aF .gtr 24 (qi 60)),qm 26 25,qg 27 (.aD 2) 26 false,qg 28 (.len 1 27) 26 false,qg 29 (.aD 1) 26 false,qg 30 (.aF .sub (qi 60) 29) 26 false,qg 31 (.aF .gtr 28 30) 26 false,qu 32 (.pick 26 (qb true) 31),qm 23 32]) (.cond 23 (.seq (.ai [qu 33 (.build [(qd 0),.aI,.aI,(.aa (.val (.string ⟨#[]⟩))),(qd 0),.aI,(qd 0),(qd 0),(qd 0)] []),qw (.store 9 6 33),qu 7 (.aD (qi 15))]) .ret) .skip))))))))) (.seq (.ai [qL 34 9 3,qu 35 (.mh 9 [(qd 0),.aI,.aI,(.aa (.val (.string ⟨#[]⟩))),(qd 0),.aI,(qd 0),(qd 0),(qd 0)] 1 [(0,34)]),qu 36 (qc 105 [35]),qu 37 (.bO 9 36 (qi 0)),qL 38 9 37,qu 8 (.alloc [(qd 0),.aI,.aI,(.aa (.val (.string ⟨#[]⟩))),(qd 0),.aI,(qd 0),(qd 0),(qd 0)]),qw (.store 9 8 38)]) (.seq (.block 1 (.loop (.seq (.seq (.ai [qf 39 1 8,ql 40 39,qu 41 (.len 1 40),qm 42 1,qm 43 2,qu 44 (.len 1 43),qu 45 (.aF .add 42 44),qu 46 (.aF .lss 41 45),qm 47 46,qg 48 (.aD 2) 47 true,qg 49 (.len 1 48) 47 true,qg 50 (.aF .gtr 49 (qi 0)) 47 true,qu 51 (.pick 47 50 (qb false))]) (.cond 51 .skip (.exit 1))) (.block 2 (.ai [qf 52 1 8,ql 53 52,qu 54 (.mh 1 [(.aa (.val (.int .u8 (0))))] 1 [(0,(.c (.rv (.one (.aa (.val (.int .u8 (0))))))))]),qu 55 (.nO 1 1 53 54),qf 56 1 8,qw (.store 1 56 55)]))))) (.cO (.seq (.ai [qf 57 1 8,ql 58 57,qm 59 1,qf 60 1 8,ql 61 60,qu 62 (.len 1 61),qu 63 (.jA false [59,62]),qu 64 (.nN 1 58 (some 63) none none),qm 65 2,qu 66 (.copy 1 64 65)]) (.seq (.ai [qL 67 9 8,qw (.store 9 6 67),qu 7 (.aD (qi 0))]) .ret)))))))⟩
theorem l65:bs Tryz.prog Tryz.f65=some c65.er:=by kernel_rfl
def zb:List Dt:=[.val (.int .u8 0)]
def Sv(d:List (List Dt))(n:Nat):List (List Dt):=d++List.replicate (n-d.length) zb
def pu(d:List (List Dt))(A:Nat)(b:List (List Dt)):List (List Dt):=if b.length=0 then d else cN (Sv d (A+b.length)) A b
def MG:Obj:=⟨0,[],[],⟨#[]⟩,0,[],0,0,0⟩
def Je(o:Obj):RV:= .agg (o.enc.map .aa)
def eR(o:Obj)(dm:Int)(b:List (List Dt)):Obj×Int:=
 if o.ah=2 then(MG,12)else if o.ah≠1 then(MG,8)else if dm<0 then(MG,3)else if dm>60\/(b.length:Int)>60-dm then(MG,15)
 else({o with data:=pu o.data dm.toNat b},0)
def rz:List CC:=[.aa (.val (.int .i64 0)),.aI,.aI,.aa (.val (.string ⟨#[]⟩)),.aa (.val (.int .i64 0)),.aI,.aa (.val (.int .i64 0)),.aa (.val (.int .i64 0)),.aa (.val (.int .i64 0))]
theorem ow{m:Mem}:eP m (.agg rz) (Je MG):=by
 refine .agg rfl fun i c c' h1 h2=>?_
 match i,h1,h2 with
 |0,h1,h2=>cases h1;cases h2;exact .aa _
 |1,h1,h2=>cases h1;cases h2;exact .aI 1
 |2,h1,h2=>cases h1;cases h2;exact .aI 2
 |3,h1,h2=>cases h1;cases h2;exact .aa _
 |4,h1,h2=>cases h1;cases h2;exact .aa _
 |5,h1,h2=>cases h1;cases h2;exact .aI 4
 |6,h1,h2=>cases h1;cases h2;exact .aa _
 |7,h1,h2=>cases h1;cases h2;exact .aa _
 |8,h1,h2=>cases h1;cases h2;exact .aa _
 |n+9,h1,h2=>simp[rz]at h1
theorem CG{m:Mem}{Q:Nat}{o:Obj}{D:List (List Dt)}(h:m[Q]? =some (.row 1 (af D))):eP m (.agg (nK Q o)) (Je {o with data:=D}):=by
 refine .agg rfl fun i c c' h1 h2=>?_
 match i,h1,h2 with
 |0,h1,h2=>cases h1;cases h2;exact .aa _
 |1,h1,h2=>cases h1;cases h2;exact eI.eE h 0 none
 |2,h1,h2=>cases h1;cases h2;exact .aa _
 |3,h1,h2=>cases h1;cases h2;exact .aa _
 |4,h1,h2=>cases h1;cases h2;exact .aa _
 |5,h1,h2=>cases h1;cases h2;exact .aa _
 |6,h1,h2=>cases h1;cases h2;exact .aa _
 |7,h1,h2=>cases h1;cases h2;exact .aa _
 |8,h1,h2=>cases h1;cases h2;exact .aa _
 |n+9,h1,h2=>simp[nK]at h1
theorem dR(d:List (List Dt)):(af d).length=d.length:=by simp[af]
theorem Ay(D b:List (List Dt))(A:Nat):cN (af D) A (af b)=af (cN D A b):=by simp[cN,af,abS,acJ]
theorem MH(x:Nat):ii 0 x=x:=by simp[ii]
def mH:LC->LC
 | .seq _ b=>b
 |x=>x
def Y7:LC->LC
 | .cO a=>a
 |x=>x
def C57:LC:=mH (mH (mH (mH c65.code)))
def G57:LC:=Y7 C57
theorem Sw(o:Obj)(D b:List (List Dt))(A:Nat)(h:b.length≠0->A+b.length<=D.length):
  aw Tryz.prog 0 G57 (nG Tryz.prog c65.lj (fun r m=>cJ m r (.bF [Je {o with data:=if b.length=0 then D else cN D A b},cH 0])))
   ⟨mg 68 [(1,an .i64 (A:Nat)),(2,rd 1 b),(6,.rv (.one (.ptr 0 0))),(8,.rv (.one (.ptr 2 0)))],[.var rz,.row 1 (af D),.var (nK 1 o)]⟩:=by
 have hm:=nb A D.length;have Tt:pF (an .i64 (if((lenOf (af D).length 0 none:Nat):Int)<(A:Int)then((lenOf (af D).length 0 none:Nat):Int)else(A:Int)))=some (fc A D.length):=by have e:lenOf (af D).length 0 none=D.length:=dR D;rw[e,ry];rfl
 refine ag Tt ?_;refine cF (by show(Nat.ble (fc A D.length) (af D).length&&Nat.ble (af D).length ((af D).length-0))=true;rw[dR];simp[aaR];omega) ?_
 by_cases hb:b.length=0
 .rw[if_pos hb];refine cF (by show Nat.beq (af b).length 0=true;rw[dR,hb];rfl) ?_
  exact j0 (CG rfl)
 .rw[if_neg hb];have hle:=h hb;have hmA:fc A D.length=A:=by unfold fc;rw[if_neg om]
  rw[hmA];refine dZ (by show Nat.beq (af b).length 0=false;rw[dR];exact Bool.eq_false_iff.2 fun hh=>hb (aav hh)) ?_
  refine cF (by have e1:=MH A;show(Nat.beq 1 1&&(Nat.beq 1 1&&(Nat.ble (ii 0 (af D).length) (af D).length&&(Nat.ble (ii 0 A+(af b).length) (ii 0 (af D).length)&&fh (af b)))))=true;rw[jF,e1,dR,dR,MH D.length];simp[aaR];omega) ?_
  refine j0 (CG ?_);show some (Bk.row 1 (cN (af D) (ii 0 A) (af b)))=_;rw[MH A,Ay]
theorem Fq(o:Obj)(hf:o.mP)(dm:Int)(b:List (List Dt))(hb:b.length<=4194304):body Tryz.prog c65 [o.cv,an .i64 dm,rd 1 b] [] (fun r m=>cJ m r (.bF [Je (eR o dm b).1,cH (eR o dm b).2])):=by
 refine bH (fun h1=>?_) (fun h1=>?_)
 .have h1:o.ah=2:=h1;rw[eR,if_pos h1];exact j0 ow
 have h1:¬o.ah=2:=h1;refine br (fun h2=>?_) (fun h2=>?_)
 .have h2:o.ah≠1:=h2;rw[eR,if_neg h1,if_pos h2];exact j0 ow
 have h2:¬o.ah≠1:=by simpa using h2
 refine aB (fun h3=>?_) (fun h3=>?_)
 .rw[eR,if_neg h1,if_neg h2,if_pos h3];exact j0 ow
 have h3:¬dm<0:=h3;refine aB (fun h4=>?_) (fun h4=>?_)
 .rw[eR,if_neg h1,if_neg h2,if_neg h3,if_pos (.inl h4)];exact j0 ow
 have h4:¬dm>60:=h4;have hw:IntKind.i64.wrap (60-dm)=60-dm:=by obtain⟨z,hz⟩:∃z:Nat,60-dm=(z:Int):=⟨(60-dm).toNat,om⟩;rw[hz,jN om]
 refine aB (fun h5=>?_) (fun h5=>?_)
 .have h5:(b.length:Int)>IntKind.i64.wrap (60-dm):=h5;rw[hw]at h5;rw[eR,if_neg h1,if_neg h2,if_neg h3,if_pos (.inr h5)];exact j0 ow
 have h5:¬(b.length:Int)>IntKind.i64.wrap (60-dm):=h5;rw[hw]at h5;rw[eR,if_neg h1,if_neg h2,if_neg h3,if_neg (fun h=>h.elim h4 h5)]
 obtain⟨A,rfl⟩:∃A:Nat,dm=A:=⟨dm.toNat,om⟩;rw[show((A:Nat):Int).toNat=A from rfl];have lJ:=hf.1;refine mA (lK:=[cg [o]]) (m':=[.var (o.enc.map .aa),.var rz,.bh]) (View.o 3 [0,1,2] [2] (.put (.rv (.one (.fv (dP.eE (Z:=fun k=>bq [2] k=true) (ds:=[o.enc]) rfl rfl 0 none)))) .nil)
  (.pe rfl rfl rfl (.pe rfl rfl rfl (.bh (.nil _))))) ?_
 refine Pm o hf ?_;obtain⟨N,hN⟩:∃N:Nat,N=if b.length=0 then 0 else A+b.length-o.data.length:=⟨_,rfl⟩
 have hN0:b.length=0->N=0:=fun h0=>by rw[hN,if_pos h0]
 have hN1:b.length≠0->N=A+b.length-o.data.length:=fun h0=>by rw[hN,if_neg h0]
 have ac4:N<=A+b.length-o.data.length:=by
  by_cases h0:b.length=0
  .rw[hN0 h0];exact aao _
  .rw[hN1 h0];exact aaj _
 clear hN;have Sx:∀j,j<=N->(o.data++List.replicate j zb).length=o.data.length+j:=fun j _=>aG
 have hwA:IntKind.i64.wrap ((A:Int)+(b.length:Int))=((A+b.length:Nat):Int):=by
  rw[show(A:Int)+(b.length:Int)=((A+b.length:Nat):Int) by omega,jN om]
 refine aO (fun j=>j<=N) [1,2] (fun j=>[(6,.rv (.one (.ptr 0 0))),(8,.rv (.one (.ptr 2 0)))]) (fun j=>[.var rz,.row 1 (af (o.data++List.replicate j zb)),.var (nK 1 o)]) (fun j=>N-j) 0 (aao _) ?_ (fun j hj=>?_)
 .refine View.o1 6 [1,4,5] [] ?_
  .exact .pe rfl rfl rfl (.pt rfl rfl (.bV aG) (.pm rfl rfl rfl))
 have hj:j<=N:=hj;have hlen:lenOf (af (o.data++List.replicate j zb)).length 0 none=o.data.length+j:=by show(af (o.data++List.replicate j zb)).length=_;rw[dR,Sx j hj]
 have fS:∀(D:List (List Dt)),D=o.data++List.replicate j zb->(b.length≠0->A+b.length<=o.data.length+j)->aw Tryz.prog 0 G57 (nG Tryz.prog c65.lj (fun r m=>cJ m r (.bF [Je {o with data:=pu o.data A b},cH 0])))
   ⟨mg 68 [(1,an .i64 (A:Nat)),(2,rd 1 b),(6,.rv (.one (.ptr 0 0))),(8,.rv (.one (.ptr 2 0)))],[.var rz,.row 1 (af D),.var (nK 1 o)]⟩:=fun D hD hh=>by
  have hs:=Sw o D b A (fun h0=>by rw[hD,Sx j hj];exact hh h0)
  have e:pu o.data A b=if b.length=0 then D else cN D A b:=by
   unfold pu;by_cases h0:b.length=0
   .rw[if_pos h0,if_pos h0,hD];have:=hN0 h0;have ej:j=0:=om;rw[ej];simp
   .rw[if_neg h0,if_neg h0,hD];have:=hh h0;have ej:j=A+b.length-o.data.length:=om;rw[Sv,ej]
  rw[e];exact hs
 have out:∀e,iO (sg [0,1,2] 3) [.var rz,.row 1 (af (o.data++List.replicate j zb)),.var (nK 1 o)] (fun k=>bq [] k=true) e (mg 68 [(1,an .i64 (A:Nat)),(2,rd 1 b),(6,.rv (.one (.ptr 0 0))),(8,.rv (.one (.ptr 2 0)))])->
   View 0 ⟨e,[.var rz,.row 1 (af (o.data++List.replicate j zb)),.var (nK 1 o)]⟩ ⟨mg 68 [(1,an .i64 (A:Nat)),(2,rd 1 b),(6,.rv (.one (.ptr 0 0))),(8,.rv (.one (.ptr 2 0)))],[.var rz,.row 1 (af (o.data++List.replicate j zb)),.var (nK 1 o)]⟩:=fun e he=>
  View.o 3 [0,1,2] [] he (.pe rfl rfl rfl (.pr rfl rfl rfl (.pm rfl rfl rfl)))
 refine aB (fun h6=>?_) (fun h6=>?_)
 .have h6:((lenOf (af (o.data++List.replicate j zb)).length 0 none:Nat):Int)<IntKind.i64.wrap ((A:Int)+(b.length:Int)):=h6;rw[hlen,hwA]at h6;refine aB (fun h7=>?_) (fun h7=>?_)
  .have h7:(b.length:Int)>0:=h7;have:=hN1 om;refine⟨by simp only[cw,dR,aax,aaT,Sx j hj];omega,?_⟩
   refine⟨j+1,(show j+1<=N by omega),(show N-(j+1)<N-j by omega),View.o1 5 [0,4,2] [] ?_⟩
   .refine .pe rfl rfl rfl (.pt rfl rfl (.bV ?_) (.pm rfl rfl rfl));rw[List.replicate_succ'];simp[cw,af,zb]
  .have h7:¬(b.length:Int)>0:=h7;refine⟨_,out _ ?_,fS _ rfl (fun h0=>om)⟩
   repeat(first|exact .nil|refine .ap ?_|refine .eq rfl ?_)
 .have h6:¬((lenOf (af (o.data++List.replicate j zb)).length 0 none:Nat):Int)<IntKind.i64.wrap ((A:Int)+(b.length:Int)):=h6;rw[hlen,hwA]at h6;refine⟨_,out _ ?_,fS _ rfl (fun h0=>om)⟩
  repeat(first|exact .nil|refine .ap ?_|refine .eq rfl ?_)
theorem CH(o:Obj)(hf:o.mP)(dm:Int)(b:List (List Dt))(hb:b.length<=4194304){m:Mem}{K:CV->Mem->Prop}(h:K (.bF [Je (eR o dm b).1,cH (eR o dm b).2]) m):ar Tryz.prog 65 [o.cv,an .i64 dm,rd 1 b] m K:=
 bb (cm Tryz.func65 l65 (Fq o hf dm b hb)) (by simp[Obj.cv,Obj.enc,rd,an,CV.dx,CC.dx,RV.dx]) fun r m1 hf=>⟨_,hf,h⟩
def j9(p Q k:Nat)(o:Obj):List CC:=[.aa (.val (.int .i64 o.ah)),.aa (.sl 1 o.data),(if k=p then .row Q 2 0 none else .aa (.sl 2 o.ak)),.aa (.val (.string o.target)),.aa (.val (.int .i64 o.aJ)),
 .aa (.sl 4 (o.aj.map bw.enc)),.aa (.val (.int .i64 o.aL)),.aa (.val (.int .i64 o.am)),.aa (.val (.int .i64 o.up))]
def bP(p Q:Nat):Nat->List Obj->List (List CC)
 |_,[]=>[]
 |k,o::r=>j9 p Q k o::bP p Q (k+1) r
theorem rA(p Q:Nat):∀(a:List Obj)(k:Nat)(b:List Obj),bP p Q k (a++b)=bP p Q k a++bP p Q (k+a.length) b
 | [],k,b=>rfl
 |o::r,k,b=>by simp[bP,rA p Q r (k+1) b,aaV,Nat.add_comm 1]
theorem fN(p Q:Nat):∀(l:List Obj)(k:Nat),(bP p Q k l).length=l.length
 | [],_=>rfl
 |o::r,k=>by simp[bP,fN p Q r (k+1)]
theorem wo(p Q:Nat):∀(l:List Obj)(k:Nat),(p<k\/k+l.length<=p)->bP p Q k l=af (l.map Obj.enc)
 | [],_,_=>rfl
 |o::r,k,h=>by simp only[aax]at h;have hk:¬k=p:=om;simp only[bP,j9,if_neg hk,wo p Q r (k+1) om];rfl
theorem fO(p Q:Nat):∀(l:List Obj)(k i:Nat),(bP p Q k l)[i]? =(l[i]?).map (j9 p Q (k+i))
 | [],k,i=>by simp[bP]
 |o::r,k,0=>by simp[bP]
 |o::r,k,i+1=>by
  simp only[bP,aa9,fO p Q r (k+1) i];rw[show k+1+i=k+(i+1) by omega]
theorem MI{σ:Nat->Nat}{p Q k:Nat}(o:Obj):(j9 p Q k o).map (CC.aQ σ)=j9 p (σ Q) k o:=by
 by_cases h:k=p<;>simp[j9,h,CC.aQ]
theorem mI{σ:Nat->Nat}(p Q:Nat):∀(l:List Obj)(k:Nat),(bP p Q k l).map (fun cs=>cs.map (CC.aQ σ))=bP p (σ Q) k l
 | [],_=>rfl
 |o::r,k=>by simp only[bP,aaX,mI p Q r (k+1)];rw[MI]
theorem Az(d:List (List Dt))(hb:d.length<=4194304):body Tryz.prog c135 [rd 2 d] [] (fun r m=>∃r' m',View 0 ⟨[r],m⟩ ⟨[r'],m'⟩/\r'= .rv (.one (.row 0 2 0 none))/\m'=[.row 2 (af d)]):=by
 have rR:((([]:List (List CC)).length+(d.map fun ds=>ds.map CC.aa).length)*24)<=140737488355328:=by simp;omega
 have fS:∃r' m',View 0 ⟨[CV.rv (.one (.row 1 2 0 none))],[.bh,.row 2 (cw ([]:List (List CC)) 0 none++d.map fun ds=>ds.map CC.aa)]⟩ ⟨[r'],m'⟩/\r'=CV.rv (.one (.row 0 2 0 none))/\m'=[Bk.row 2 (af d)]:=
  ⟨_,_,View.o 2 [1] [] (.eq rfl .nil) (.pn rfl rfl rfl),rfl,rfl⟩
 refine aE (fun h=>?_) (fun h=>?_)
 .have hd:d=[]:=aat (by simpa using aav h)
  refine⟨?_,rR,fS⟩;subst hd;exact⟨_,_,View.aI 0 2 0 rfl rfl rfl,rfl,rfl⟩
 .exact⟨rR,fS⟩
theorem Fr(d:List (List Dt))(hb:d.length<=4194304){m:Mem}{K:CV->Mem->Prop}(h:K (.rv (.one (.row m.length 2 0 none))) (m++ [.row 2 (af d)])):ar Tryz.prog 135 [rd 2 d] m K:=by
 refine bC [] m.length rfl rfl rfl rfl (args0:=[rd 2 d]) rfl (fun i b' hi=>by simp at hi) (K0:=fun r m=>r= .rv (.one (.row 0 2 0 none))/\m=[.row 2 (af d)]) (bN (aZ Tryz.func135 l135 (Az d hb)) fun r m1 h=>h) (fun r m1 hr=>?_)
 obtain⟨rfl,rfl⟩:=hr;refine⟨aao _,?_⟩;show K (.rv (.one (.row (m.length+(0-0)) 2 0 none))) (iI m [.row 2 ((af d).map (fun cs=>cs.map (CC.aQ (sg [] m.length))))])
 rw[gU,cr];exact h
def AA(l:List Obj)(p k:Nat):Bk:=match Nat.blt p k with|true=>.row 2 (af (match l[p]? with|some o=>o.ak|none=>[]))|false=>.bh
theorem uW{σ:Nat->Nat}(l:List Obj)(p k:Nat):(AA l p k).aQ σ=AA l p k:=by
 unfold AA;split
 .exact Bk.kn _ _
 .rfl
theorem wq{p Q:Nat}{l:List Obj}{k:Nat}{o:Obj}(h:l[k]? =some o):bP p Q 0 (l.take (k+1))=bP p Q 0 (l.take k)++ [j9 p Q k o]:=by have hk:=(aac.1 h).1;rw[ph h,rA,aaz,acq om,aaS];rfl
theorem Jf(l:List Obj)(hf:jZ l)(p:Nat):body Tryz.prog c105 [cg l] [] (fun r m=>r= .rv (.one (.row 0 9 0 none))/\m=[.row 9 (bP p 1 0 l),AA l p l.length]):=by
 obtain⟨hl,Td⟩:=hf;refine aO (fun k=>k<=l.length) [0,9,10] (fun k=>[(11,an .i64 (k:Nat)),(3,.rv (.one (.row 0 9 0 none)))]) (fun k=>[.row 9 (bP p 1 0 (l.take k)),AA l p k]) (fun k=>l.length-k) 0 (aao _) ?_ (fun k hk=>?_)
 .refine View.trans (View.aI 2 4 0 rfl rfl rfl) (View.trans (View.aI 3 9 1 rfl rfl rfl) (View.o1 2 [1,0] [] ?_))
  .exact .put (by simp[bq]) rfl (.eq rfl aG) (.bh (.nil _))
 .refine aB (fun h=>?_) (fun h=>?_)
  .have aC:k<l.length:=by have h:(k:Int)<((l.map Obj.enc).length:Int):=h;rw[aad]at h;omega
   have hi:=aab aC;have Oe:=Td _ (aau aC);have hg:cy (l.map Obj.enc) (k:Nat)=some (l[k].enc):=by rw[bl,aaf,aab aC];rfl
   generalize l[k]=o at hi Oe hg;obtain⟨ah,data,ak,target,aJ,aj,aL,am,up⟩:=o;obtain⟨LG,EI,Of,Ki⟩:=Oe;have LG:data.length<=4194304:=LG;have EI:ak.length<=4194304:=EI;have Of:aj.length<=4194304:=Of;have Ki:∀q,q∈aj->q.data.length<=4194304:=Ki;have hg:cy (l.map Obj.enc) (k:Nat)=some [.val (.int .i64 ah),.sl 1 data,.sl 2 ak,.val (.string target),.val (.int .i64 aJ),.sl 4 (aj.map bw.enc),.val (.int .i64 aL),.val (.int .i64 am),.val (.int .i64 up)]:=hg;refine ag hg ?_;refine hB data LG ?_;refine⟨⟨rfl,trivial⟩,?_⟩;by_cases RF:k=p
   .subst RF;refine Fr ak EI ?_;refine⟨trivial,?_⟩;refine⟨trivial,?_⟩;refine⟨trivial,?_⟩;have hR:∀Q,bP k Q 0 (l.take k)=af ((l.take k).map Obj.enc):=fun Q=>wo k Q _ 0 (.inr (by simp;omega))
    have hd:AA l k k= .bh:=by
     have:Nat.blt k k=false:=Bool.eq_false_iff.2 fun h=>by rw[abe]at h;omega
     simp only[AA,this]
    rw[hd,hR];refine aO (fun j=>j<=aj.length) [0,3,5,9,10,11,24,25] (fun j=>[(26,an .i64 (j:Nat)),(6,.rv (.one (.row 4 4 0 none)))])
     (fun j=>[.row 9 (af ((l.take k).map Obj.enc)),.bh,.var [.aa (.val (.int .i64 ah)),.aa (.sl 1 data),.row 3 2 0 none,.aa (.val (.string target)),.aa (.val (.int .i64 aJ)),.aa (.sl 4 (aj.map bw.enc)),.aa (.val (.int .i64 aL)),.aa (.val (.int .i64 am)),.aa (.val (.int .i64 up))],.row 2 (af ak),.row 4 (af ((aj.take j).map bw.enc))]) (fun j=>aj.length-j) 0 (aao _) ?_ (fun j hj=>?_)
    .refine View.trans (View.aI 6 4 4 rfl rfl rfl) (View.o1 5 [0,1,2,3,4] [] ?_)
     .exact .pr rfl rfl rfl (.bh (.pe rfl rfl rfl (.pr rfl rfl rfl (.pn rfl rfl rfl))))
    .have hj:j<=aj.length:=hj;refine aB (fun h=>?_) (fun h=>?_)
     .have dA:j<aj.length:=by have h:(j:Int)<((aj.map bw.enc).length:Int):=h;rw[aad]at h;omega
      have xV:=aab dA;have IK:=Ki _ (aau dA);generalize aj[j]=q at xV IK;obtain⟨qd,qh,qo,qr⟩:=q;have ur:cy (aj.map bw.enc) (j:Nat)=some [.sl 1 qd,.val (.bool qh),.val (.int .i64 qo),.val (.int .i64 qr)]:=by rw[bl,aaf,xV];rfl
      refine ag ur ?_;refine hB qd IK ?_;refine⟨?_,?_⟩
      .show((af ((aj.take j).map bw.enc)).length+1)*48<=_;simp[af];omega
      refine⟨j+1,dA,(show aj.length-(j+1)<aj.length-j by omega),View.o 8 [0,1,2,3,7] [] ?_ ?_⟩
      .repeat(first|exact .nil|refine .ap ?_|refine .put (.aQ (aq om).symm) ?_|refine .eq rfl ?_)
      .refine .pr rfl rfl rfl (.bh (.pe rfl rfl rfl (.pr rfl rfl rfl (.pt rfl rfl (.bV ?_) (.nil _)))));rw[ph xV,aaU,cD];rfl
     .have ei:¬(j:Int)<((aj.map bw.enc).length:Int):=h;rw[aad]at ei;have hq:aj.take j=aj:=abm om;refine⟨?_,?_⟩
      .show((af ((l.take k).map Obj.enc)).length+1)*128<=_;simp[af];omega
      have R3:AA l k (k+1)= .row 2 (af ak):=by
       have:Nat.blt k (k+1)=true:=by rw[abe];omega
       simp only[AA,this,hi]
      refine⟨k+1,aC,(show l.length-(k+1)<l.length-k by omega),View.o 7 [6,3] [4] ?_ ?_⟩
      .repeat(first|exact .nil|refine .ap ?_|refine .put (.aQ (aq om).symm) ?_|refine .eq rfl ?_)
      .rw[wq hi,R3,hR];refine .pt rfl rfl (.EG (gU _ _) rfl ?_) (.pn rfl rfl rfl);intro j' c c' h1 h2;have e5:j9 k 1 k ⟨ah,data,ak,target,aJ,aj,aL,am,up⟩=[.aa (.val (.int .i64 ah)),.aa (.sl 1 data),.row 1 2 0 none,.aa (.val (.string target)),.aa (.val (.int .i64 aJ)),.aa (.sl 4 ((aj.take j).map bw.enc)),.aa (.val (.int .i64 aL)),.aa (.val (.int .i64 am)),.aa (.val (.int .i64 up))]:=by simp[j9,hq]
       rw[e5]at h2
       match j',h1,h2 with
       |0,h1,h2=>cases h1;cases h2;exact .aQ (.aa _)
       |1,h1,h2=>cases h1;cases h2;exact .aQ (.aa _)
       |2,h1,h2=>cases h1;cases h2;exact .aQ (.row 1 2 0 none)
       |3,h1,h2=>cases h1;cases h2;exact .aQ (.aa _)
       |4,h1,h2=>cases h1;cases h2;exact .aQ (.aa _)
       |5,h1,h2=>cases h1;cases h2;exact .fv (dP.eE (Z:=fun k=>bq [4] k=true) rfl (by rw[<-aX];rfl) 0 none)
       |6,h1,h2=>cases h1;cases h2;exact .aQ (.aa _)
       |7,h1,h2=>cases h1;cases h2;exact .aQ (.aa _)
       |8,h1,h2=>cases h1;cases h2;exact .aQ (.aa _)
       |n+9,h1,h2=>simp at h1
   .refine sw ak EI ?_;refine⟨trivial,?_⟩;refine⟨trivial,?_⟩;refine⟨trivial,?_⟩;refine aO (fun j=>j<=aj.length) [0,3,5,9,10,11,24,25] (fun j=>[(26,an .i64 (j:Nat)),(6,.rv (.one (.row 3 4 0 none)))])
     (fun j=>[.row 9 (bP p 1 0 (l.take k)),AA l p k,.var ((⟨ah,data,ak,target,aJ,aj,aL,am,up⟩:Obj).enc.map .aa),.row 4 (af ((aj.take j).map bw.enc))]) (fun j=>aj.length-j) 0 (aao _) ?_ (fun j hj=>?_)
    .refine View.trans (View.aI 6 4 3 rfl rfl rfl) (View.o1 4 [0,1,2,3] [] ?_)
     .exact .pt rfl rfl (.eq (congrArg (Bk.row 9) (mI p 1 _ _)) aG) (.yQ (eZ rfl) rfl (uW l p k) (.pe rfl rfl rfl (.pn rfl rfl rfl)))
    .have hj:j<=aj.length:=hj;refine aB (fun h=>?_) (fun h=>?_)
     .have dA:j<aj.length:=by have h:(j:Int)<((aj.map bw.enc).length:Int):=h;rw[aad]at h;omega
      have xV:=aab dA;have IK:=Ki _ (aau dA);generalize aj[j]=q at xV IK;obtain⟨qd,qh,qo,qr⟩:=q;have ur:cy (aj.map bw.enc) (j:Nat)=some [.sl 1 qd,.val (.bool qh),.val (.int .i64 qo),.val (.int .i64 qr)]:=by rw[bl,aaf,xV];rfl
      refine ag ur ?_;refine hB qd IK ?_;refine⟨?_,?_⟩
      .show((af ((aj.take j).map bw.enc)).length+1)*48<=_;simp[af];omega
      refine⟨j+1,dA,(show aj.length-(j+1)<aj.length-j by omega),View.o 7 [0,1,2,6] [] ?_ ?_⟩
      .repeat(first|exact .nil|refine .ap ?_|refine .put (.aQ (aq om).symm) ?_|refine .eq rfl ?_)
      .refine .pt rfl rfl (.eq (congrArg (Bk.row 9) (mI p 1 _ _)) aG) (.yQ (eZ rfl) rfl (uW l p k) (.pe rfl rfl rfl (.pt rfl rfl (.bV ?_) (.nil _))));rw[ph xV,aaU,cD];rfl
     .have ei:¬(j:Int)<((aj.map bw.enc).length:Int):=h;rw[aad]at ei;have hq:aj.take j=aj:=abm om;refine⟨?_,?_⟩
      .show((bP p 1 0 (l.take k)).length+1)*128<=_;rw[fN];simp;omega
      have R3:AA l p (k+1)=AA l p k:=by
       have:Nat.blt p (k+1)=Nat.blt p k:=by rw[ab6,abe,abe];omega
       simp only[AA,this]
      refine⟨k+1,aC,(show l.length-(k+1)<l.length-k by omega),View.o 6 [5,1] [3] ?_ ?_⟩
      .repeat(first|exact .nil|refine .ap ?_|refine .put (.aQ (aq om).symm) ?_|refine .eq rfl ?_)
      .rw[wq hi,R3];refine .pt rfl rfl (.EG (mI p 1 _ _) rfl ?_) (.yQ (eZ rfl) rfl (uW l p k) (.nil _));intro j' c c' h1 h2;have e5:j9 p 1 k ⟨ah,data,ak,target,aJ,aj,aL,am,up⟩=[.aa (.val (.int .i64 ah)),.aa (.sl 1 data),.aa (.sl 2 ak),.aa (.val (.string target)),.aa (.val (.int .i64 aJ)),.aa (.sl 4 ((aj.take j).map bw.enc)),.aa (.val (.int .i64 aL)),.aa (.val (.int .i64 am)),.aa (.val (.int .i64 up))]:=by simp[j9,RF,hq]
       rw[e5]at h2
       match j',h1,h2 with
       |0,h1,h2=>cases h1;cases h2;exact .aQ (.aa _)
       |1,h1,h2=>cases h1;cases h2;exact .aQ (.aa _)
       |2,h1,h2=>cases h1;cases h2;exact .aQ (.aa _)
       |3,h1,h2=>cases h1;cases h2;exact .aQ (.aa _)
       |4,h1,h2=>cases h1;cases h2;exact .aQ (.aa _)
       |5,h1,h2=>cases h1;cases h2;exact .fv (dP.eE (Z:=fun k=>bq [3] k=true) rfl (by rw[<-aX];rfl) 0 none)
       |6,h1,h2=>cases h1;cases h2;exact .aQ (.aa _)
       |7,h1,h2=>cases h1;cases h2;exact .aQ (.aa _)
       |8,h1,h2=>cases h1;cases h2;exact .aQ (.aa _)
       |n+9,h1,h2=>simp at h1
  .have ei:¬(k:Int)<((l.map Obj.enc).length:Int):=h;rw[aad]at ei;have fP:k=l.length:=by have:k<=l.length:=hk;omega
   subst fP;rw[aaO];exact⟨rfl,rfl⟩
theorem AB(l:List Obj)(hf:jZ l)(p:Nat){m:Mem}{K:CV->Mem->Prop}(h:K (.rv (.one (.row m.length 9 0 none))) (m++ [.row 9 (bP p (m.length+1) 0 l),AA l p l.length])):ar Tryz.prog 105 [cg l] m K:=by
 refine bC [] m.length rfl rfl rfl rfl rfl (fun i b' hi=>by simp at hi) (aZ Tryz.func105 l105 (Jf l hf p)) (fun r m1 hr=>?_)
 obtain⟨h1,h2⟩:=hr;subst h1;subst h2;refine⟨aao _,?_⟩;show K (.rv (.one (.row (m.length+(0-0)) 9 0 none))) (iI m [.row 9 ((bP p 1 0 l).map (fun cs=>cs.map (CC.aQ (sg [] m.length)))),(AA l p l.length).aQ (sg [] m.length)])
 rw[mI,uW,cr];exact h
def c115:LF:= ⟨46,[.tmp 6],(.seq (.ai [qu 6 (.aD (qi 0))]) (.seq (.seq (.ai [qm 9 1,qu 10 (.aF .lss 9 (qi 0)),qm 11 10,qg 12 (.aD 1) 11 false,qg 13 (.aD 0) 11 false,qg 14 (.len 1 13) 11 false,qg 15 (.aF .geq 12 14) 11 false,qu 16 (.pick 11 (qb true) 15),qm 17 16,qg 18 (.aD 0) 17 false,qg 19 (.aD 1) 17 false,qg 20 (.bO 9 18 19) 17 false,qg 21 (.bg 0 20) 17 false,qg 22 (.load false 1 21) 17 false,qg 23 (.aF .neq 22 (qi 2)) 17 false,qu 24 (.pick 17 (qb true) 23)]) (.cond 24 (.seq (.ai [qu 6 (.aD (qi (-1)))]) .ret) .skip)) (.seq (.ai [qm 26 0,qm 27 1,qu 28 (.bO 9 26 27),qf 29 2 28,ql 30 29,qm 31 2,qu 32 (qc 141 [30,31,(.c (.rv (.one (.fn 142 []))))]),qm 25 32,qu 33 (.ext 25 0),qu 34 (.ext 25 1),qm 7 33,qm 8 34]) (.seq (.seq (.ai [qm 35 8,qu 36 (.un .not 35)]) (.cond 36 (.seq (.ai [qu 6 (.aD (qi (-1)))]) .ret) .skip)) (.seq (.ai [qm 37 0,qm 38 1,qu 39 (.bO 9 37 38),qf 40 2 39,ql 41 40,qm 42 7,qu 43 (.bO 2 41 42),qf 44 1 43,ql 45 44,qm 6 45]) .ret)))))⟩
def c146:LF:= ⟨9,[.tmp 4],(.seq (.ai [qu 2 (.box 0),qu 4 (.aD (qi 0))]) (.seq (.ai [qf 5 0 2,ql 6 5,qm 7 1,qu 8 (qc 143 [6,7]),qm 4 8]) .ret))⟩
theorem l146:bs Tryz.prog Tryz.f146=some c146:=by kernel_rfl
theorem l115:bs Tryz.prog Tryz.f115=some c115:=by kernel_rfl
theorem CI(e:ByteArray×Int)(s:ByteArray):body Tryz.prog c146 [wh e,eM s] [] (fun r m=>r=an .i64 (kV e.1 s)):=
 Mx e.1 s rfl
theorem Sy(e:ByteArray×Int)(s:ByteArray){m:Mem}{K:CV->Mem->Prop}(h:K (an .i64 (kV e.1 s)) m):ar Tryz.prog 146 [wh e,eM s] m K:=
 bm Tryz.func146 l146 rfl (aak rfl) (CI e s) rfl rfl h
def wt(l:List Obj)(es:List (ByteArray×Int))(cL:Nat)(s:ByteArray):Int:=if Aq es s=true then(match es[pT es s]? with|some e=>e.2|none=>0)else -1
theorem Fs(l:List Obj)(cL:Nat)(hd:cL<l.length)(hk:l[cL].ah=2)(es:List (ByteArray×Int))(he:l[cL].ak=es.map cZ)(hl:es.length<=2147483648)(s:ByteArray):body Tryz.prog c115 [cg l,an .i64 (cL:Nat),eM s] [] (fun r m=>r=an .i64 (wt l es cL s)):=by
 have hg:cy (l.map Obj.enc) (cL:Nat)=some l[cL].enc:=by rw[bl,aaf,aab hd];rfl
 generalize l[cL]=o at hg hk he;obtain⟨ah,data,ak,target,aJ,aj,aL,am,up⟩:=o;have hk:ah=2:=hk;have he:ak=es.map cZ:=he;subst hk he;have hg:cy (l.map Obj.enc) (cL:Nat)=some [.val (.int .i64 2),.sl 1 data,.sl 2 (es.map cZ),.val (.string target),.val (.int .i64 aJ),.sl 4 (aj.map bw.enc),.val (.int .i64 aL),.val (.int .i64 am),.val (.int .i64 up)]:=hg;refine aB (fun h1=>?_) (fun h1=>?_)
 .exfalso;have h1:(cL:Int)>=((l.map Obj.enc).length:Int):=h1;rw[aad]at h1;omega
 refine ag hg ?_;refine ag hg ?_;refine My es hl s 142 (fun e m K h=>Q2 e s h) ?_
 refine aE (fun h2=>?_) (fun h2=>?_)
 .have h2:Aq es s=false:=by simpa using h2
  show an _ _=an _ _;rw[wt,if_neg (by rw[h2];simp)]
 .have h2:Aq es s=true:=by simpa using h2
  refine ag hg ?_;have aC:pT es s<es.length:=by
   unfold Aq at h2;split at h2
   .rename_i e he;exact(aac.1 he).1
   .cases h2
  refine ag (ou aC) ?_;show an _ _=an _ _;rw[wt,if_pos h2,aab aC]
theorem CJ(l:List Obj)(cL:Nat)(hd:cL<l.length)(hk:l[cL].ah=2)(es:List (ByteArray×Int))(he:l[cL].ak=es.map cZ)(hl:es.length<=2147483648)(s:ByteArray){m:Mem}{K:CV->Mem->Prop}(h:K (an .i64 (wt l es cL s)) m):ar Tryz.prog 115 [cg l,an .i64 (cL:Nat),eM s] m K:=
 bm Tryz.func115 l115 rfl (aak rfl) (Fs l cL hd hk es he hl s) (by simp[cg,an,eM,CV.dx,CC.dx,RV.dx]) rfl h
theorem Ft(l:List Ob)(ok:na l)(cL:Nat)(hd:cL<l.length)(hk:l[cL].ah=2)(w:bJ.dN):body Tryz.prog c115 [Ab l,an .i64 (cL:Nat),bJ.vT w] [] (fun r m=>r=an .i64 (l4 l cL w)):=by
 obtain⟨AD,ac5,hlen,D8⟩:=ok.eh cL;have D8:=D8 hd;have hf:l4 l cL w=(if Aq (iA (li l cL)) (bJ.cz w)=true then(match (iA (li l cL))[pT (iA (li l cL)) (bJ.cz w)]? with|some e=>e.2|none=>0)else -1):=t7 AD (ju _ _) (Hs AD _)
 rw[hf];have hg:=mF hd;generalize iA (li l cL)=es at*
 generalize l[cL]=o at hg hk D8;obtain⟨ah,data,ak,target,aJ,aj,aL,am,up⟩:=o;have hk:ah=2:=hk;have he:ak=es.map cZ:=D8;subst hk he;refine aB (fun h1=>?_) (fun h1=>?_)
 .exfalso;have h1:(cL:Int)>=((l.map Ob.enc).length:Int):=h1;rw[aad]at h1;omega
 refine ag hg ?_;refine ag hg ?_;refine My es om (bJ.cz w) 142 (fun e m K h=>Q2 e (bJ.cz w) h) ?_
 refine aE (fun h2=>?_) (fun h2=>?_)
 .have h2:Aq es (bJ.cz w)=false:=by simpa using h2
  show an _ _=an _ _;rw[if_neg (by rw[h2];simp)]
 .have h2:Aq es (bJ.cz w)=true:=by simpa using h2
  refine ag hg ?_;have aC:pT es (bJ.cz w)<es.length:=by
   unfold Aq at h2;split at h2
   .rename_i e he;exact(aac.1 he).1
   .cases h2
  refine ag (ou aC) ?_;show an _ _=an _ _;rw[if_pos h2,aab aC]
theorem MJ(l:List Ob)(ok:na l)(cL:Nat)(hd:cL<l.length)(hk:l[cL].ah=2)(w:bJ.dN){m:Mem}{K:CV->Mem->Prop}(h:K (an .i64 (l4 l cL w)) m):ar Tryz.prog 115 [Ab l,an .i64 (cL:Nat),bJ.vT w] m K:=
 bm Tryz.func115 l115 rfl (aak rfl) (Ft l ok cL hd hk w) rfl rfl h
def Tu(l:List Ob)(ax:Int):Nat->Int->Bool
 |0,_=>false
 |n+1,d=>if oe l d 2=false then false else if d=ax then true else if d=0 then false else Tu l ax n (li l d.toNat).up
theorem wu{l:List Ob}{ax:Int}(V:List Nat)(h:∀x,x∈V->(x:Int)≠ax/\∃y,y∈V/\(li l x).up=(y:Nat)):∀(n x:Nat),x∈V->Tu l ax n (x:Nat)=false
 |0,_,_=>rfl
 |n+1,x,hx=>by
  obtain⟨h1,y,hy,h2⟩:=h x hx;rw[Tu];by_cases hI:oe l x 2=false
  .rw[if_pos hI]
  rw[if_neg hI,if_neg h1];by_cases h0:(x:Int)=0
  .rw[if_pos h0]
  rw[if_neg h0,aaw,h2];exact wu V h n y hy
theorem wv:∀{N:Nat}{V:List Nat},V.Nodup->(∀x,x∈V->x<N)->V.length<=N
 |0,V,_,h=>by
  cases V with
  |nil=>exact aaj _
  |cons x r=>exact absurd (h x aG) (aaL x)
 |N+1,V,hd,h=>by
  by_cases hm:N∈V
  .have h1:=List.length_erase_of_mem hm;have h2:=wv (N:=N) (hd.erase N) fun x hx=>by rw[hd.mem_erase_iff]at hx;have:=h x hx.2;have:=hx.1;omega
   have:=List.length_pos_of_mem hm;omega
  .have:=wv (N:=N) hd fun x hx=>by
    have h1:=h x hx;have:x≠N:=fun e=>hm (e▸hx)
    omega
   omega
structure Sz where
 d:Int
 V:List Nat
structure Pn(l:List Ob)(ax cL:Int)(a:Sz):Prop where
 nd:a.V.Nodup
 rg:∀x,x∈a.V->x<l.length
 cl:∀x,x∈a.V->(x:Int)≠ax/\((li l x).up=a.d\/∃y,y∈a.V/\(li l x).up=(y:Nat))
 eq:Tu l ax (l.length+1-a.V.length) a.d=Tu l ax (l.length+1) cL
theorem Pn.le{l:List Ob}{ax cL:Int}{a:Sz}(h:Pn l ax cL a):a.V.length<=l.length:=wv h.nd h.rg
theorem Pn.uk{l:List Ob}{ax cL:Int}{a:Sz}(h:Pn l ax cL a){n:Nat}(hn:a.d=n)(hm:n∈a.V):Tu l ax (l.length+1) cL=false:=by
 rw[<-h.eq,hn];refine wu a.V (fun x hx=>?_) _ n hm
 obtain⟨h1,h2⟩:=h.cl x hx;refine⟨h1,?_⟩;rcases h2 with h2|h2
 .exact⟨n,hm,h2.trans hn⟩
 .exact h2
end Go.Proofs.YtojhmadmlnfpcaaGreatDoor
