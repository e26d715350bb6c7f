/- Part 38 of 43: what the law stands on. -/
import Derived.Test.YtojhmadmlnfpcaaGreatDoorK16
import Derived.Test.YtojhmadmlnfpcaaGreatDoorK37
set_option linter.unusedVariables false
set_option linter.unusedSimpArgs false
set_option linter.unnecessarySimpa false
set_option maxRecDepth 100000
set_option maxHeartbeats 64000000
namespace Go.Proofs.YtojhmadmlnfpcaaGreatDoor
open Go.AM Go.ChangeShapes Go.WideShapes Go.ChangeAt Go.RowKit
def c9:LF:= ⟨77,[.cell true 2 2],(.seq (.ai [qu 2 (.alloc [(qd 0),(qd 0)])]) (.seq (.seq (.ai [qm 9 0,qu 10 (.len 1 9),qu 11 (.aF .gtr 10 (qi 30))]) (.cond 11 (.seq (.ai [qu 12 (.build [(qd 0),(qd 0)] [(0,1,(qi 5))]),qw (.store 2 2 12)]) .ret) .skip)) (.seq (.ai [qu 13 (.qz),qm 3 13]) (.seq (.seq (.ai [qm 14 0,qu 15 (.len 1 14),qu 16 (.aD (qi 0))]) (.block 0 (.loop (.seq (.ai [qu 17 (.aF .lss 16 15)]) (.seq (.cond 17 .skip (.exit 0)) (.seq (.block 1 (.seq (.ai [qm 18 16,qu 19 (.bO 2 14 16),qL 20 2 19,qu 4 (.alloc [(qd 0)]),qu 5 (.alloc [(qd 0),.aI]),qw (.store 1 4 18),qw (.store 2 5 20)]) (.seq (.ai [qu 21 (.fn 19 [4]),qm 6 21]) (.seq (.seq (.ai [qf 22 0 5,ql 23 22,qu 24 (.aF .lss 23 (qi 0)),qm 25 24,qg 26 (.bg 0 5) 25 false,qg 27 (.load false 1 26) 25 false,qg 28 (.aF .geq 27 (qi 2147483648)) 25 false,qu 29 (.pick 25 (qb true) 28)]) (.cond 29 (.seq (.ai [qm 30 6,qu 31 (.call 30 [(qi 3)]),qw (.store 2 2 31)]) .ret) .skip)) (.seq (.seq (.ai [qm 32 3,qf 33 0 5,ql 34 33,qu 35 (.Bw (.one (.aa (.val (.bool false)))) (.i .i64) 32 34 false)]) (.cond 35 (.seq (.ai [qm 36 6,qu 37 (.call 36 [(qi 7)]),qw (.store 2 2 37)]) .ret) .skip)) (.seq (.ai [qm 38 3,qf 39 0 5,ql 40 39,qw (.kF (.i .i64) 38 40 (qb true))]) (.seq (.seq (.ai [qf 41 1 5,ql 42 41,qu 43 (.len 1 42),qu 44 (.aF .gtr 43 (qi 3))]) (.cond 44 (.seq (.ai [qm 45 6,qu 46 (.call 45 [(qi 5)]),qw (.store 2 2 46)]) .ret) .skip)) (.seq (.ai [qf 47 1 5,ql 48 47,qu 49 (.len 1 48),qu 50 (.aD (qi 0))]) (.block 2 (.loop (.seq (.ai [qu 51 (.aF .lss 50 49)]) (.seq (.cond 51 .skip (.exit 2)) (.seq (.block 3 (.seq (.ai [qu 52 (.bO 2 48 50),qL 53 2 52,qu 8 (.alloc [(qd 0),(qd 0)]),qw (.store 2 8 53)]) (.seq (.ai [qf 54 0 8,ql 55 54,qu 56 (.aF .lss 55 (qi 1)),qm 57 56,qg 58 (.bg 0 8) 57 false,qg 59 (.load false 1 58) 57 false,qg 60 (.aF .gtr 59 (qi 5)) 57 false,qu 61 (.pick 57 (qb true) 60),qm 62 61,qg 63 (.bg 1 8) 62 false,qg 64 (.load false 1 63) 62 false,qg 65 (.aF .lss 64 (qi 1)) 62 false,qu 66 (.pick 62 (qb true) 65),qm 67 66,qg 68 (.bg 1 8) 67 false,qg 69 (.load false 1 68) 67 false,qg 70 (.aF .geq 69 (qi 2147483648)) 67 false,qu 71 (.pick 67 (qb true) 70)]) (.cond 71 (.seq (.ai [qm 72 6,qu 73 (.call 72 [(qi 3)]),qw (.store 2 2 73)]) .ret) .skip)))) (.ai [qu 74 (.aF .add 50 (qi 1)),qm 50 74])))))))))))))) (.ai [qu 75 (.aF .add 16 (qi 1)),qm 16 75]))))))) (.seq (.ai [qu 76 (.build [(qd 0),(qd 0)] []),qw (.store 2 2 76)]) .ret)))))⟩
def c29:LF:= ⟨46,[.cell true 2 2],(.seq (.ai [qu 2 (.alloc [(qd 0),(qd 0)])]) (.seq (.seq (.ai [qm 5 0,qu 6 (.len 1 5),qu 7 (.aF .gtr 6 (qi 30))]) (.cond 7 (.seq (.ai [qu 8 (.build [(qd 0),(qd 0)] [(0,1,(qi 5))]),qw (.store 2 2 8)]) .ret) .skip)) (.seq (.seq (.ai [qm 9 0,qu 10 (.len 1 9),qu 11 (.aD (qi 0))]) (.block 0 (.loop (.seq (.ai [qu 12 (.aF .lss 11 10)]) (.seq (.cond 12 .skip (.exit 0)) (.seq (.block 1 (.seq (.ai [qm 13 11,qu 14 (.bO 2 9 11),qL 15 2 14,qu 4 (.alloc [(qd 0),.aI]),qm 3 13,qw (.store 2 4 15)]) (.seq (.seq (.ai [qf 16 0 4,ql 17 16,qu 18 (.aF .lss 17 (qi 0)),qm 19 18,qg 20 (.bg 0 4) 19 false,qg 21 (.load false 1 20) 19 false,qg 22 (.aF .geq 21 (qi 2147483648)) 19 false,qu 23 (.pick 19 (qb true) 22)]) (.cond 23 (.seq (.ai [qm 24 3,qu 25 (.build [(qd 0),(qd 0)] [(0,1,(qi 3)),(1,1,24)]),qw (.store 2 2 25)]) .ret) .skip)) (.seq (.seq (.ai [qm 26 0,qm 27 3,qu 28 (.nN 2 26 none (some 27) none),qu 29 (.fn 53 [4]),qu 30 (qc 52 [28,29])]) (.cond 30 (.seq (.ai [qm 31 3,qu 32 (.build [(qd 0),(qd 0)] [(0,1,(qi 7)),(1,1,31)]),qw (.store 2 2 32)]) .ret) .skip)) (.seq (.seq (.ai [qf 33 1 4,ql 34 33,qu 35 (.len 1 34),qu 36 (.aF .gtr 35 (qi 3))]) (.cond 36 (.seq (.ai [qm 37 3,qu 38 (.build [(qd 0),(qd 0)] [(0,1,(qi 5)),(1,1,37)]),qw (.store 2 2 38)]) .ret) .skip)) (.seq (.ai [qf 39 1 4,ql 40 39,qu 41 (qc 54 [40,(.c (.rv (.one (.fn 55 []))))])]) (.cond 41 (.seq (.ai [qm 42 3,qu 43 (.build [(qd 0),(qd 0)] [(0,1,(qi 3)),(1,1,42)]),qw (.store 2 2 43)]) .ret) .skip))))))) (.ai [qu 44 (.aF .add 11 (qi 1)),qm 11 44]))))))) (.seq (.ai [qu 45 (.build [(qd 0),(qd 0)] []),qw (.store 2 2 45)]) .ret))))⟩
def fF(pre:List bU)(p:bU):Int:=
 if p.call<0\/p.call>=2147483648 then 3 else if pre.any (fun q=>q.call==p.call)=true then 7 else if p.aN.length>3 then 5 else if p.aN.any jI=true then 3 else 0
def fG(l:List bU)(k:Nat):Int:=match l[k]? with|some p=>fF (l.take k) p|none=>0
def th(f:Nat->Int):Nat->Nat->Int×Int
 |0,_=>(0,0)
 |n+1,k=>if f k=0 then th f n (k+1)else(f k,(k:Int))
theorem ti{f:Nat->Int}:∀(n k:Nat),(∀j,k<=j->j<k+n->f j=0)->th f n k=(0,0)
 |0,_,_=>rfl
 |n+1,k,h=>by rw[th,if_pos (h k (aaj k) om)];exact ti n (k+1) fun j h1 h2=>h j om om
theorem nh{f:Nat->Int}:∀(n k j:Nat),k<=j->j<k+n->(∀i,k<=i->i<j->f i=0)->f j≠0->th f n k=(f j,(j:Int))
 |0,_,_,_,_,_,_=>om
 |n+1,k,j,h1,h2,h3,h4=>by
  rw[th];rcases aaq k j with h|h
  .rw[if_pos (h3 k (aaj k) h)];exact nh n (k+1) j om om (fun i a b=>h3 i om b) h4
  .have:k=j:=om;subst this;rw[if_neg h4]
def bX(l:List bU):Int×Int:=if l.length>30 then(5,0)else th (fG l) l.length 0
theorem zm{l:List bU}{k:Nat}(h0:¬l.length>30)(hk:k<l.length)(hg:∀j,j<k->fG l j=0){e:Int}(h:fF (l.take k) l[k]=e)(he:e≠0):nL (e,(k:Int))=nL (bX l):=by
 have hw:fG l k=e:=by rw[fG,aab hk];exact h
 rw[bX,if_neg h0,nh l.length 0 k om om (fun i _ hi=>hg i hi) (by rw[hw];exact he),hw]
theorem wW{l:List bU}{k:Nat}(hk:k<l.length)(hg:∀j,j<k->fG l j=0)(h:fF (l.take k) l[k]=0):∀j,j<k+1->fG l j=0:=by
 intro j hj;rcases aaq j k with h1|h1
 .exact hg j h1
 .have:j=k:=om;subst this;rw[fG,aab hk];exact h
theorem l29:bs Tryz.prog Tryz.f29=some c29:=by kernel_rfl
theorem Gh(l:List bU):body Tryz.prog c29 [cS l] [] (fun r m=>r=nL (bX l)):=by
 refine aB (fun h=>?_) (fun h0=>?_)
 .have h:l.length>30:=by have h:(((l.map bU.enc).length:Nat):Int)>30:=h;rw[aad]at h;omega
  rw[bX,if_pos h];exact rfl
 have h0:¬l.length>30:=by have h:¬(((l.map bU.enc).length:Nat):Int)>30:=h0;rw[aad]at h;omega
 refine aO (fun k=>k<=l.length/\∀(j:Nat),j<k->fG l j=0) [0,2,9,10] (fun k=>[(11,an .i64 (k:Nat))]) (fun _=>[.var [.aa (.val (.int .i64 0)),.aa (.val (.int .i64 0))]]) (fun k=>l.length-k) 0 ⟨aao _,fun j h=>absurd h (aaL j)⟩ ?_ (fun k hk=>?_)
 .refine View.o1 1 [0] [] ?_
  .exact .put (by simp[bq]) rfl (.eq rfl aG) (.nil _)
 .refine aB (fun h=>?_) (fun h=>?_)
  .have aC:k<l.length:=by have h:(k:Int)<((l.map bU.enc).length:Int):=h;rw[aad]at h;omega
   have bad:∀{e:Int},fF (l.take k) l[k]=e->e≠0->nL (e,(k:Int))=nL (bX l):=fun a b=>zm h0 aC hk.2 a b
   have ND:=wW aC hk.2;have hg:cy (l.map bU.enc) (k:Nat)=some [.val (.int .i64 l[k].call),.sl 2 (l[k].aN.map gl.enc)]:=by rw[bl,aaf,aab aC];rfl
   generalize l[k]=p at bad ND hg;obtain⟨call,aN⟩:=p;refine ag hg ?_;refine aB (fun h=>?_) (fun h1=>?_)
   .exact bad (by rw[fF,if_pos (.inl h)]) (by decide)
   refine aB (fun h=>?_) (fun h2=>?_)
   .exact bad (by rw[fF,if_pos (.inr h)]) (by decide)
   have n1:¬((⟨call,aN⟩:bU).call<0\/(⟨call,aN⟩:bU).call>=2147483648):=fun h=>h.elim h1 h2
   have tQ:∀{m:Mem}{K:CV->Mem->Prop},df m 1=some (.var ((⟨call,aN⟩:bU).enc.map .aa))->K (ay ((l.take k).any fun q=>q.call==(⟨call,aN⟩:bU).call)) m->ar Tryz.prog 52 [.rv (.one (.aa (.sl 2 (((l.map bU.enc).take k).drop 0)))),.rv (.one (.fn 53 [1]))] m K:=by
    intro m K hm hK;have e:((l.map bU.enc).take k).drop 0=(l.take k).map bU.enc:=aG;rw[e];exact fb 1 hm rfl rfl (JY (l.take k) (by simp;omega) 53 (⟨call,aN⟩:bU).enc (fun q=>q.call==(⟨call,aN⟩:bU).call) fun s _ K hs=>Wn _ s K hs) hK
   refine cF (by simp[aaR];omega) ?_
   refine tQ rfl ?_;refine aE (fun h=>?_) (fun h3=>?_)
   .exact bad (by rw[fF,if_neg n1,if_pos h]) (by decide)
   have n2:¬((l.take k).any fun q=>q.call==(⟨call,aN⟩:bU).call)=true:=by rw[h3];simp
   refine aB (fun h=>?_) (fun h4=>?_)
   .have h:(⟨call,aN⟩:bU).aN.length>3:=by have h:(((aN.map gl.enc).length:Nat):Int)>3:=h;rw[aad]at h;show aN.length>3;omega
    exact bad (by rw[fF,if_neg n1,if_neg n2,if_pos h]) (by decide)
   have n3:¬(⟨call,aN⟩:bU).aN.length>3:=by have h:¬(((aN.map gl.enc).length:Nat):Int)>3:=h4;rw[aad]at h;show ¬aN.length>3;omega
   refine JZ aN (by have:¬aN.length>3:=n3;omega) 55 jI (fun s _ K hs=>Wo s K hs) ?_
   refine aE (fun h=>?_) (fun h5=>?_)
   .exact bad (by rw[fF,if_neg n1,if_neg n2,if_neg n3,if_pos h]) (by decide)
   have n4:¬(⟨call,aN⟩:bU).aN.any jI=true:=by show ¬aN.any jI=true;rw[h5];simp
   refine⟨k+1,⟨aC,ND (by rw[fF,if_neg n1,if_neg n2,if_neg n3,if_neg n4])⟩,(show l.length-(k+1)<l.length-k by omega),View.o 2 [0] [] ?_ ?_⟩
   .repeat(first|exact .nil|refine .ap ?_|refine .put (.aQ (aq om).symm) ?_|refine .eq rfl ?_)
   .exact .put (by simp[bq]) rfl (.eq rfl aG) (.nil _)
  .have ei:¬(k:Int)<((l.map bU.enc).length:Int):=h;rw[aad]at ei;rw[bX,if_neg h0,ti l.length 0 fun j _ hj=>hk.2 j om]
   exact rfl
theorem NF(l:List bU){m:Mem}{K:CV->Mem->Prop}(h:K (nL (bX l)) m):ar Tryz.prog 29 [cS l] m K:=
 bm Tryz.func29 l29 rfl (aak rfl) (Gh l) rfl rfl h
def uC(p:bU):ME:=⟨.int .i64 p.call,.one (.aa (.val (.bool true)))⟩
theorem ui(c:Int):∀L:List bU,qC (.int .i64 c) (L.map uC)=if L.any (fun q=>q.call==c)=true then some (some (.one (.aa (.val (.bool true)))))else some none
 | []=>rfl
 |p::r=>by
  have ih:=ui c r;simp only[aaX,qC,uC,qB,decide_true,acK];by_cases h:c=p.call
  .subst h;simp
  .have h1:(c==p.call)=false:=by simpa using h
   have h2:(p.call==c)=false:=by simpa using fun e=>h e.symm
   simp only[h1,h2,abL];exact ih
theorem wX(c:Int)(v:RV):∀L:List bU,L.any (fun q=>q.call==c)=false->DR (.int .i64 c) v (L.map uC)=some (L.map uC++ [⟨.int .i64 c,v⟩])
 | [],_=>rfl
 |p::r,h=>by
  simp only[acK,ab0]at h;have ih:=wX c v r h.2;have h1:(c==p.call)=false:=by have:=h.1;simp only[beq_eq_false_iff_ne,ne_eq]at this⊢;exact fun e=>this e.symm
  simp only[aaX,DR,uC,qB,decide_true,h1];rw[ih];rfl
theorem Gi{σ:Nat->Nat}(L:List bU):(Bk.mp (L.map uC)).aQ σ= .mp (L.map uC):=by simp[Bk.aQ,RV.aQ,CC.aQ,uC,abU]
theorem l9:bs Tryz.prog Tryz.f9=some c9:=by kernel_rfl
theorem Df(l:List bU):body Tryz.prog c9 [cS l] [] (fun r m=>r=nL (bX l)):=by
 refine aB (fun h=>?_) (fun h0=>?_)
 .have h:l.length>30:=by have h:(((l.map bU.enc).length:Nat):Int)>30:=h;rw[aad]at h;omega
  rw[bX,if_pos h];exact rfl
 have h0:¬l.length>30:=by have h:¬(((l.map bU.enc).length:Nat):Int)>30:=h0;rw[aad]at h;omega
 refine aO (fun k=>k<=l.length/\∀(j:Nat),j<k->fG l j=0) [0,2,3,14,15] (fun k=>[(16,an .i64 (k:Nat))]) (fun k=>[.var [.aa (.val (.int .i64 0)),.aa (.val (.int .i64 0))],.mp ((l.take k).map uC)]) (fun k=>l.length-k) 0 ⟨aao _,fun j h=>absurd h (aaL j)⟩ ?_ (fun k hk=>?_)
 .refine View.o1 2 [0,1] [] ?_
  .exact .put (by simp[bq]) rfl (.eq rfl aG) (.put (by simp[bq]) rfl (.eq rfl aG) (.nil _))
 .refine aB (fun h=>?_) (fun h=>?_)
  .have aC:k<l.length:=by have h:(k:Int)<((l.map bU.enc).length:Int):=h;rw[aad]at h;omega
   have bad:∀{e:Int},fF (l.take k) l[k]=e->e≠0->nL (e,(k:Int))=nL (bX l):=fun a b=>zm h0 aC hk.2 a b
   have ND:=wW aC hk.2;have L5:l.take (k+1)=l.take k++ [l[k]]:=by rw[aa8,aab aC];rfl
   have hg:cy (l.map bU.enc) (k:Nat)=some [.val (.int .i64 l[k].call),.sl 2 (l[k].aN.map gl.enc)]:=by rw[bl,aaf,aab aC];rfl
   generalize l[k]=p at bad ND hg L5;obtain⟨call,aN⟩:=p;have Dg:∀(e:Int){m:Mem}{K:CV->Mem->Prop},df m 2=some (.var ([Dt.val (.int .i64 (k:Nat))].map .aa))->K (nL (e,(k:Int))) m->ar Tryz.prog 19 [an .i64 e,.rv (.one (.ptr 2 0))] m K:=by intro e m K hm hK;exact fb 2 hm rfl rfl (Wp e (k:Nat)) hK
   refine ag hg ?_;refine aB (fun h=>?_) (fun h1=>?_)
   .refine Dg 3 rfl ?_;exact bad (by rw[fF,if_pos (.inl h)]) (by decide)
   refine aB (fun h=>?_) (fun h2=>?_)
   .refine Dg 3 rfl ?_;exact bad (by rw[fF,if_pos (.inr h)]) (by decide)
   have n1:¬((⟨call,aN⟩:bU).call<0\/(⟨call,aN⟩:bU).call>=2147483648):=fun h=>h.elim h1 h2
   have hf:=ui call (l.take k);cases h3:(l.take k).any (fun q=>q.call==call)with
   |true=>
    rw[h3,if_pos rfl]at hf;refine ag hf ?_;refine Dg 7 rfl ?_;exact bad (by rw[fF,if_neg n1,if_pos h3]) (by decide)
   |false=>
    rw[h3,if_neg aG]at hf;refine ag hf ?_;have n2:¬((l.take k).any fun q=>q.call==(⟨call,aN⟩:bU).call)=true:=by
     show ¬((l.take k).any fun q=>q.call==call)=true
     rw[h3];simp
    refine ag (wX call (.one (.aa (.val (.bool true)))) (l.take k) h3) ?_;refine aB (fun h=>?_) (fun h4=>?_)
    .have h:(⟨call,aN⟩:bU).aN.length>3:=by have h:(((aN.map gl.enc).length:Nat):Int)>3:=h;rw[aad]at h;show aN.length>3;omega
     refine Dg 5 rfl ?_;exact bad (by rw[fF,if_neg n1,if_neg n2,if_pos h]) (by decide)
    have n3:¬(⟨call,aN⟩:bU).aN.length>3:=by have h:¬(((aN.map gl.enc).length:Nat):Int)>3:=h4;rw[aad]at h;show ¬aN.length>3;omega
    have hm3:aN.length<=3:=by have:¬aN.length>3:=n3;omega
    have hmp:(l.take k).map uC++ [⟨.int .i64 call,.one (.aa (.val (.bool true)))⟩]=(l.take (k+1)).map uC:=by rw[L5,aaU];rfl
    refine aO (fun j=>j<=aN.length/\∀(i:Nat)s,i<j->aN[i]? =some s->jI s=false) [0,2,3,6,14,15,16,48,49] (fun j=>[(50,an .i64 (j:Nat))])
     (fun _=>[.var [.aa (.val (.int .i64 0)),.aa (.val (.int .i64 0))],.mp ((l.take (k+1)).map uC),.var ([Dt.val (.int .i64 (k:Nat))].map .aa)]) (fun j=>aN.length-j) 0 ⟨aao _,fun j s h=>absurd h (aaL j)⟩ ?_ (fun j hj=>?_)
    .refine View.o1 4 [0,1,2] [] ?_
     .exact .put (by simp[bq]) rfl (.eq rfl aG) (.put (by simp[bq]) rfl (.eq (by rw[hmp];exact Gi _) aG) (.put (by simp[bq]) rfl (.eq rfl aG) (.nil _)))
    .refine aB (fun h=>?_) (fun h=>?_)
     .have dA:j<aN.length:=by have h:(j:Int)<((aN.map gl.enc).length:Int):=h;rw[aad]at h;omega
      have hi:=aab dA;generalize aN[j]=s at hi;have RT:jI s=true->aN.any jI=true:=fun h=>aaM.2 ⟨s,aag hi,h⟩
      obtain⟨w,bits⟩:=s;have ur:cy (aN.map gl.enc) (j:Nat)=some [.val (.int .i64 w),.val (.int .i64 bits)]:=by rw[bl,aaf,hi];rfl
      have O5:jI ⟨w,bits⟩=(decide (w<1)||decide (w>5)||decide (bits<1)||decide (bits>=2147483648)):=by
       have e:decide (w>=6)=decide (w>5):=by rw[ab6];simp;omega
       simp only[jI,e]
      have out:jI ⟨w,bits⟩=true->nL (3,(k:Int))=nL (bX l):=fun h=>bad (by rw[fF,if_neg n1,if_neg n2,if_neg n3,if_pos (RT h)]) (by decide)
      refine ag ur ?_;refine aE (fun h=>?_) (fun m1=>?_)
      .refine Dg 3 rfl ?_;exact out (by rw[O5,h];rfl)
      refine aE (fun h=>?_) (fun m2=>?_)
      .refine Dg 3 rfl ?_;exact out (by rw[O5,m1,h];rfl)
      refine aE (fun h=>?_) (fun m3=>?_)
      .refine Dg 3 rfl ?_;exact out (by rw[O5,m1,m2,h];rfl)
      refine aE (fun h=>?_) (fun m4=>?_)
      .refine Dg 3 rfl ?_;exact out (by rw[O5,m1,m2,m3,h];rfl)
      refine⟨j+1,⟨dA,fun i s pM hs=>?_⟩,(show aN.length-(j+1)<aN.length-j by omega),View.o 4 [0,1,2] [] ?_ ?_⟩
      .rcases aaq i j with h5|h5
       .exact hj.2 i s h5 hs
       .have:i=j:=om;subst this;rw[hi]at hs;cases hs;rw[O5,m1,m2,m3,m4];rfl
      .repeat(first|exact .nil|refine .ap ?_|refine .put (.aQ (aq om).symm) ?_|refine .eq rfl ?_)
      .exact .put (by simp[bq]) rfl (.eq rfl aG) (.put (by simp[bq]) rfl (.eq (Gi _) aG) (.put (by simp[bq]) rfl (.eq rfl aG) (.nil _)))
     .have ei:¬(j:Int)<((aN.map gl.enc).length:Int):=h;rw[aad]at ei;have n4:¬(⟨call,aN⟩:bU).aN.any jI=true:=by show ¬aN.any jI=true;intro h;obtain⟨s,hs,hb⟩:=aaM.1 h;obtain⟨i,hi⟩:=aam hs;have:=(aac.1 hi).1;rw[hj.2 i s om hi]at hb;cases hb
      refine⟨k+1,⟨aC,ND (by rw[fF,if_neg n1,if_neg n2,if_neg n3,if_neg n4])⟩,(show l.length-(k+1)<l.length-k by omega),View.o 3 [0,1] [] ?_ ?_⟩
      .repeat(first|exact .nil|refine .ap ?_|refine .put (.aQ (aq om).symm) ?_|refine .eq rfl ?_)
      .exact .put (by simp[bq]) rfl (.eq rfl aG) (.put (by simp[bq]) rfl (.eq (Gi _) aG) (.nil _))
  .have ei:¬(k:Int)<((l.map bU.enc).length:Int):=h;rw[aad]at ei;rw[bX,if_neg h0,ti l.length 0 fun j _ hj=>hk.2 j om]
   exact rfl
theorem oX(l:List bU){m:Mem}{K:CV->Mem->Prop}(h:K (nL (bX l)) m):ar Tryz.prog 9 [cS l] m K:=
 bm Tryz.func9 l9 rfl (aak rfl) (Df l) rfl rfl h
def c13:LF:= ⟨37,[.tmp 4],(.seq (.ai [qu 3 (.box 1),qu 4 (.aD (qb false))]) (.seq (.seq (.ai [qm 9 0,qu 10 (.len 1 9),qu 11 (.aD (qi 0))]) (.block 0 (.loop (.seq (.ai [qu 12 (.aF .lss 11 10)]) (.seq (.cond 12 .skip (.exit 0)) (.seq (.block 1 (.seq (.ai [qu 13 (.bO 2 9 11),qL 14 2 13,qu 6 (.alloc [(qd 0),.aI]),qw (.store 2 6 14)]) (.seq (.seq (.ai [qf 15 0 6,ql 16 15,qu 17 (.pA 6 1 3 (qi 0)),ql 18 17,qu 19 (.aF .neq 16 18)]) (.cond 19 (.exit 1) .skip)) (.seq (.seq (.ai [qf 20 1 6,ql 21 20,qu 22 (.len 1 21),qu 23 (.aD (qi 0))]) (.block 2 (.loop (.seq (.ai [qu 24 (.aF .lss 23 22)]) (.seq (.cond 24 .skip (.exit 2)) (.seq (.block 3 (.seq (.ai [qu 25 (.bO 2 21 23),qL 26 2 25,qu 8 (.alloc [(qd 0),(qd 0)]),qw (.store 2 8 26)]) (.seq (.bQ [qf 27 0 8,ql 28 27,qu 29 (.pA 6 1 3 28),ql 30 29,qf 31 1 8,ql 32 31,qu 33 (.aF .and 30 32),qu 34 (.aF .neq 33 (qi 0))] [(.cons 0 none (.cons 1 none (.cons 2 none (.cons 3 none (.cons 4 none (.cons 5 none (.cons 6 none (.cons 7 none .nil))))))))]) (.cond 34 (.seq (.ai [qu 4 (.aD (qb false))]) .ret) .skip)))) (.ai [qu 35 (.aF .add 23 (qi 1)),qm 23 35]))))))) (.seq (.ai [qu 4 (.aD (qb true))]) .ret))))) (.ai [qu 36 (.aF .add 11 (qi 1)),qm 11 36]))))))) (.seq (.ai [qu 4 (.aD (qb false))]) .ret)))⟩
def gz(l:List bU)(r:oC):Bool:=match l.find? (fun p=>p.call==r.r0)with|some p=>!p.aN.any (DN r)|none=>false
theorem l13:bs Tryz.prog Tryz.f13=some c13:=by kernel_rfl
def Z1(l:List bU):Prop:=∀p,p∈l->∀s,s∈p.aN->0<=s.w/\s.w<6
theorem Dh{l:List bU}(h:(bX l).1=0):l.length<=30/\Z1 l:=by
 unfold bX at h;split at h
 .simp at h
 .rename_i h0;refine⟨om,?_⟩;have fl:∀j,j<l.length->fG l j=0:=by
   intro j
   induction j using Nat.strongRecOn with
   |_ j ih=>
    intro hj;by_cases hw:fG l j=0
    .exact hw
    .rw[nh l.length 0 j om om (fun i _ hi=>ih i hi om) hw]at h
     exact absurd h hw
  intro p hp s hs;obtain⟨j,hj⟩:=aam hp;have hw:=fl j (aac.1 hj).1;rw[fG,hj]at hw;simp only[fF]at hw;have Xt:jI s=false:=by
   cases hb:jI s with
   |false=>rfl
   |true=>
    have:p.aN.any jI=true:=aaM.2 ⟨s,hs,hb⟩;rw[this]at hw;split at hw
    .simp at hw
    .split at hw
     .simp at hw
     .split at hw<;>simp at hw
  simp only[jI,ab0,decide_eq_false_iff_not]at Xt;omega
theorem Gj{l:List bU}{r:oC}{k:Nat}(h:k<l.length)(hq:l[k].call=r.r0)(hb:∀(j:Nat)s,j<k->l[j]? =some s->s.call≠r.r0):gz l r= !l[k].aN.any (DN r):=by
 have:l.find? (fun p=>p.call==r.r0)=some l[k]:=by
  rw[List.find?_eq_some_iff_getElem];exact⟨by simpa using hq,k,h,rfl,fun j hj=>by simpa using hb j _ hj (aab om)⟩
 rw[gz,this]
theorem AU(l:List bU)(r:oC)(hl:l.length<=30)(hw:Z1 l)(hm:∀p,p∈l->p.aN.length<=4194304):body Tryz.prog c13 [cS l,r.cv] [] (fun x m=>x=ay (gz l r)):=by
 refine aO (fun k=>k<=l.length/\∀(j:Nat)s,j<k->l[j]? =some s->s.call≠r.r0) [0,3,9,10] (fun k=>[(11,an .i64 (k:Nat))]) (fun _=>[.var (r.enc.map .aa)]) (fun k=>l.length-k) 0 ⟨aao _,fun j s h=>absurd h (aaL j)⟩ ?_ (fun k hk=>?_)
 .refine View.o1 1 [0] [] ?_
  .exact .put (by simp[bq]) rfl (.eq rfl aG) (.nil _)
 .refine aB (fun h=>?_) (fun h=>?_)
  .have aC:k<l.length:=by have h:(k:Int)<((l.map bU.enc).length:Int):=h;rw[aad]at h;omega
   have Tc:l[k].call=r.r0->gz l r= !l[k].aN.any (DN r):=fun h=>Gj aC h hk.2
   have BV:=hw _ (aau aC);have Z2:=hm _ (aau aC);have hi:=aab aC;have hg:cy (l.map bU.enc) (k:Nat)=some [.val (.int .i64 l[k].call),.sl 2 (l[k].aN.map gl.enc)]:=by rw[bl,aaf,aab aC];rfl
   generalize l[k]=p at Tc BV Z2 hi hg;obtain⟨call,aN⟩:=p;refine ag hg ?_;refine br (fun eW=>?_) (fun hc=>?_)
   .refine⟨k+1,⟨aC,fun j s hj hs=>?_⟩,(show l.length-(k+1)<l.length-k by omega),View.o 2 [0] [] ?_ ?_⟩
    .rcases aaq j k with h5|h5
     .exact hk.2 j s h5 hs
     .have:j=k:=om;subst this;rw[hi]at hs;cases hs;exact eW
    .repeat(first|exact .nil|refine .ap ?_|refine .put (.aQ (aq om).symm) ?_|refine .eq rfl ?_)
    .exact .put (by simp[bq]) rfl (.eq rfl aG) (.nil _)
   .have ha:gz l r= !aN.any (DN r):=Tc hc;rw[ha];have Z2:aN.length<=4194304:=Z2;refine aO (fun j=>j<=aN.length/\∀(i:Nat)s,i<j->aN[i]? =some s->DN r s=false) [3,21,22] (fun j=>[(23,an .i64 (j:Nat))]) (fun _=>[.var (r.enc.map .aa)]) (fun j=>aN.length-j) 0 ⟨aao _,fun j s h=>absurd h (aaL j)⟩ ?_ (fun j hj=>?_)
    .refine View.o1 2 [0] [] ?_
     .exact .put (by simp[bq]) rfl (.eq rfl aG) (.nil _)
    .refine aB (fun h=>?_) (fun h=>?_)
     .have dA:j<aN.length:=by have h:(j:Int)<((aN.map gl.enc).length:Int):=h;rw[aad]at h;omega
      have Tt:=aab dA;have Z3:=BV aN[j] (aau dA);generalize aN[j]=s at Tt Z3;obtain⟨w,bits⟩:=s;obtain⟨n,rfl⟩:∃n:Nat,w=n:=⟨w.toNat,by simp at Z3;omega⟩
      have hn:n<6:=by simp at Z3;omega
      have ur:cy (aN.map gl.enc) (j:Nat)=some [.val (.int .i64 n),.val (.int .i64 bits)]:=by rw[bl,aaf,Tt];rfl
      refine ag ur ?_;refine ag (bT hn) ?_;refine ag (r.V3 hn) ?_;refine aE (fun h=>?_) (fun hnh=>?_)
      .have:aN.any (DN r)=true:=aaM.2 ⟨_,aag Tt,h⟩;rw[this];exact rfl
      .refine⟨j+1,⟨dA,fun i s pM hs=>?_⟩,(show aN.length-(j+1)<aN.length-j by omega),View.o 2 [0] [] ?_ ?_⟩
       .rcases aaq i j with h5|h5
        .exact hj.2 i s h5 hs
        .have:i=j:=om;subst this;rw[Tt]at hs;cases hs;exact hnh
       .repeat(first|exact .nil|refine .ap ?_|refine .put (.aQ (aq om).symm) ?_|refine .eq rfl ?_)
       .exact .put (by simp[bq]) rfl (.eq rfl aG) (.nil _)
     .have ei:¬(j:Int)<((aN.map gl.enc).length:Int):=h;rw[aad]at ei;have:aN.any (DN r)=false:=by
       cases hb:aN.any (DN r)with
       |false=>rfl
       |true=>
        obtain⟨s,hs,hb⟩:=aaM.1 hb;obtain⟨i,hi⟩:=aam hs;have:=(aac.1 hi).1;rw[hj.2 i s om hi]at hb;cases hb
      rw[this];exact rfl
  .have ei:¬(k:Int)<((l.map bU.enc).length:Int):=h;rw[aad]at ei;have:gz l r=false:=by
    have:l.find? (fun p=>p.call==r.r0)=none:=acd.2 fun x hx=>by obtain⟨i,hi⟩:=aam hx;have:=(aac.1 hi).1;simpa using hk.2 i x om hi
    rw[gz,this]
   rw[this];exact rfl
theorem Gk(l:List bU)(r:oC)(hl:l.length<=30)(hw:Z1 l)(hm:∀p,p∈l->p.aN.length<=4194304){m:Mem}{K:CV->Mem->Prop}(h:K (ay (gz l r)) m):ar Tryz.prog 13 [cS l,r.cv] m K:=
 bm Tryz.func13 l13 rfl (aak rfl) (AU l r hl hw hm) rfl rfl h
def lR:List gl->List dB
 | []=>[⟨6,0,0,1⟩,⟨6,0,0,0⟩]
 |m::r=>⟨1,0,0,m.w⟩:: ⟨4,((2*r.length+1:Nat):Int),0,m.bits⟩::lR r
def d7(p:bU):List dB:=⟨2,0,((2*p.aN.length+1:Nat):Int),p.call⟩::lR p.aN
def x7(l:List bU):Int:=match l[l.length/2]? with|some p=>p.call|none=>0
def di:Nat->List bU->List dB
 |0,_=>[⟨6,0,0,0⟩]
 |_+1,[]=>[⟨6,0,0,0⟩]
 |_+1,[p]=>d7 p
 |n+1,p::q::r=>⟨3,0,1,x7 (p::q::r)⟩:: ⟨5,0,0,(di n ((p::q::r).take ((p::q::r).length/2))).length⟩::
   (di n ((p::q::r).take ((p::q::r).length/2))++di n ((p::q::r).drop ((p::q::r).length/2)))
theorem mK{n:Nat}{l:List bU}(h:2<=l.length):di (n+1) l=⟨3,0,1,x7 l⟩:: ⟨5,0,0,(di n (l.take (l.length/2))).length⟩::(di n (l.take (l.length/2))++di n (l.drop (l.length/2))):=by
 match l,h with
 |p::q::r,_=>rfl
theorem J0(n:Nat)(p:bU):di (n+1) [p]=d7 p:=rfl
theorem ig:∀ms:List gl,(lR ms).length=2*ms.length+2
 | []=>rfl
 |m::r=>by simp[lR,ig r];omega
theorem k9:∀ms:List gl,(lR ms)[2*ms.length+1]? =some ⟨6,0,0,0⟩
 | []=>rfl
 |m::r=>by
  have:=k9 r;rw[aax,show 2*(r.length+1)+1=2*r.length+1+1+1 by omega]
  simpa[lR]using this
def At(P:List dB)(a:Nat)(c:List dB):Prop:=∀(j:Nat)i,c[j]? =some i->P[a+j]? =some i
theorem At.head{P:List dB}{a:Nat}{x:dB}{c:List dB}(h:At P a (x::c)):P[a]? =some x:=h 0 x rfl
theorem At.tail{P:List dB}{a:Nat}{x:dB}{c:List dB}(h:At P a (x::c)):At P (a+1) c:=fun j i hi=>by
 have:=h (j+1) i (by simpa using hi)
 rwa [show a+(j+1)=a+1+j by omega]at this
theorem At.left{P:List dB}{a:Nat}{c d:List dB}(h:At P a (c++d)):At P a c:=fun j i hi=>h j i (by rw[aar (aac.1 hi).1];exact hi)
theorem At.right{P:List dB}{a:Nat}{c d:List dB}(h:At P a (c++d)):At P (a+c.length) d:=fun j i hi=>by
 have:=h (c.length+j) i (by rw[aan om];simpa using hi)
 rwa [show a+(c.length+j)=a+c.length+j by omega]at this
theorem zn{P:List dB}{r:oC}:∀(ms:List gl)(a:Nat)(dd:Int),At P a (lR ms)->(gk P r a dd).1=if ms.any (DN r)then 0 else 1
 | [],a,dd,h=>by rw[kD h.head rfl];rfl
 |m::q,a,dd,h=>by
  have h2:=h.tail;rw[e8 h.head aG (d:=1) (acc2:=r.get m.w.toNat) rfl];have hn:=No (2*q.length+1) 0 m.bits (r.get m.w.toNat) r;by_cases hh:Nl (r.get m.w.toNat) m.bits=0
  .rw[e8 h2.head aG (hn.2 hh)];have hm:DN r m=false:=by simp[DN,hh]
   have ih:=zn (P:=P) (r:=r) q (a+1+1) (r.get m.w.toNat) h2.tail;simp only[acK,hm,abL];exact ih
  .rw[e8 h2.head aG (hn.1 hh)];have hm:DN r m=true:=by simp[DN,hh]
   have h3:=h2.tail _ _ (k9 q);rw[show a+1+(1+(2*q.length+1))=a+1+1+(2*q.length+1) by omega,kD h3 rfl]
   simp[hm]
theorem NG{P:List dB}{r:oC}{p:bU}{a:Nat}{dd:Int}(h:At P a (d7 p)):(gk P r a dd).1=if(p.call==dd&& !p.aN.any (DN r))then 1 else 0:=by
 have hn:=Nm 0 (2*p.aN.length+1) p.call dd r;by_cases hc:dd=p.call
 .rw[e8 h.head aG (hn.1 hc)];have:=zn (r:=r) p.aN (a+1) dd h.tail;show(gk P r (a+1) dd).1=_;rw[this];subst hc;cases p.aN.any (DN r)<;>simp
 .rw[e8 h.head aG (hn.2 hc)];have h3:=h.tail _ _ (k9 p.aN);rw[show a+(1+(2*p.aN.length+1))=a+1+(2*p.aN.length+1) by omega,kD h3 rfl]
  have:(p.call==dd)=false:=by rw[beq_eq_false_iff_ne];exact fun e=>hc e.symm
  simp[this]
def mL(l:List bU)(r:oC)(dd:Int):Bool:=l.any fun p=>p.call==dd&& !p.aN.any (DN r)
def gW(l:List bU):Prop:=l.Pairwise fun a b=>a.call<b.call
theorem gW.lo{l:List bU}(h:gW l){k:Nat}{q:bU}(hk:l[k]? =some q):∀p,p∈l.take k->p.call<q.call:=by
 intro p hp;obtain⟨i,hi⟩:=aam hp;rw[aaK]at hi;split at hi
 .rename_i VB;obtain⟨h1,rfl⟩:=aac.1 hi;obtain⟨h2,rfl⟩:=aac.1 hk;exact abi.1 h i k h1 h2 VB
 .cases hi
theorem gW.hi{l:List bU}(h:gW l){k:Nat}{q:bU}(hk:l[k]? =some q):∀p,p∈l.drop k->q.call<=p.call:=by
 intro p hp;obtain⟨i,hi⟩:=aam hp;rw[aaZ]at hi;obtain⟨h1,rfl⟩:=aac.1 hi;obtain⟨h2,rfl⟩:=aac.1 hk;cases i with
 |zero=>exact ab3 _
 |succ i=>exact Int.le_of_lt (abi.1 h k (k+(i+1)) h2 h1 om)
theorem tj{l:List bU}{r:oC}{dd:Int}(h:∀p,p∈l->p.call≠dd):mL l r dd=false:=by rw[mL,List.any_eq_false];intro p hp;simp[h p hp]
theorem Di(l:List bU)(k:Nat)(r:oC)(dd:Int):mL l r dd=(mL (l.take k) r dd||mL (l.drop k) r dd):=by rw[mL,mL,mL,<-List.any_append,abV]
theorem wY{P:List dB}{r:oC}:∀(n:Nat)(l:List bU)(a:Nat)(dd:Int),l.length<=n->gW l->At P a (di n l)->(gk P r a dd).1=if mL l r dd then 1 else 0
 |0,l,a,dd,hl,_,h=>by have:l=[]:=aat om;subst this;rw[kD (At.head (x:=⟨6,0,0,0⟩) (c:=[]) h) rfl];rfl
 |n+1,l,a,dd,hl,hs,h=>by
  rcases aaq l.length 2 with h2|h2
  .match l,h2 with
   | [],_=>rw[kD (At.head (x:=⟨6,0,0,0⟩) (c:=[]) h) rfl];rfl
   | [p],_=>
    rw[NG (p:=p) h];simp[mL]
  .rw[mK h2]at h;have hk:l.length/2<l.length:=om;have hm:l[l.length/2]? =some l[l.length/2]:=aab hk;have EP:x7 l=(l[l.length/2]).call:=by rw[x7,hm]
   have gR:=hs.lo hm;have xF:=hs.hi hm;rw[<-EP]at gR xF;have hn:=Nn 0 1 (x7 l) dd r;by_cases hc:dd>=x7 l
   .rw[e8 h.head aG (hn.1 hc)];show(gk P r (a+1) dd).1=_;rw[e8 h.tail.head aG (d:=1+(di n (l.take (l.length/2))).length) (acc2:=dd) (by simp[rU])]
    have ih:=wY (P:=P) (r:=r) n (l.drop (l.length/2)) (a+1+1+(di n (l.take (l.length/2))).length) dd (by rw[aa4];omega) (hs.sublist (List.drop_sublist _ _)) h.tail.tail.right
    rw[<-aaV (a+1)];show(gk P r (a+1+1+(di n (l.take (l.length/2))).length) dd).1=_;rw[ih,Di l (l.length/2),tj (l:=l.take (l.length/2)) (fun p hp=>by have:=gR p hp;omega),abL]
   .rw[e8 h.head aG (hn.2 hc)];have ih:=wY (P:=P) (r:=r) n (l.take (l.length/2)) (a+1+1) dd (by rw[aaz];omega) (hs.sublist (List.take_sublist _ _)) h.tail.tail.left
    show(gk P r (a+1+1) dd).1=_;rw[ih,Di l (l.length/2),tj (l:=l.drop (l.length/2)) (fun p hp=>by have:=xF p hp;omega),Bool.or_false]
def wZ(c:List dB)(a:Nat)(s:Int):Prop:=∀(j:Nat)i,c[j]? =some i->im i ((a+j:Nat):Int) s=0
theorem wZ.cons{x:dB}{c:List dB}{a:Nat}{s:Int}(hx:im x (a:Int) s=0)(h:wZ c (a+1) s):wZ (x::c) a s:=fun j i hi=>by
 cases j with
 |zero=>simp at hi;subst hi;exact hx
 |succ j=>
  have:=h j i (by simpa using hi)
  rwa [show a+1+j=a+(j+1) by omega]at this
theorem wZ.append{c d:List dB}{a:Nat}{s:Int}(h1:wZ c a s)(h2:wZ d (a+c.length) s):wZ (c++d) a s:=fun j i hi=>by
 rcases aaq j c.length with h|h
 .rw[aar h]at hi;exact h1 j i hi
 .rw[aan h]at hi;have:=h2 (j-c.length) i hi;rwa [show a+c.length+(j-c.length)=a+j by omega]at this
def Ri(m:gl):Prop:=1<=m.w/\m.w<6/\1<=m.bits/\m.bits<2147483648
def zo(p:bU):Prop:=0<=p.call/\p.call<2147483648/\p.aN.length<=3/\∀m,m∈p.aN->Ri m
theorem Dj:∀(ms:List gl)(a s:Nat),ms.length<=3->(∀m,m∈ms->Ri m)->a+(lR ms).length<=s->wZ (lR ms) a s
 | [],a,s,_,_,h=>.cons (by rw[wS];simp) (.cons (by rw[wS];simp) fun j i hi=>by simp at hi)
 |m::r,a,s,h1,h2,h=>by
  obtain⟨g1,g2,g3,g4⟩:=h2 m aG;rw[ig,aax]at h;rw[aax]at h1;refine .cons ?_ (.cons ?_ (Dj r (a+1+1) s om (fun x hx=>h2 x (by simp[hx])) (by rw[ig];omega)))
  .rw[F4,if_neg om];simp
  .rw[s8 _ _ _ _ _ _ om,if_neg om]
theorem NH{p:bU}(hp:zo p){a s:Nat}(h:a+(d7 p).length<=s):wZ (d7 p) a s:=by
 obtain⟨g1,g2,g3,g4⟩:=hp;have hl:(d7 p).length=2*p.aN.length+3:=by simp[d7,ig]
 rw[hl]at h;refine .cons ?_ (Dj p.aN (a+1) s g3 g4 (by rw[ig];omega))
 rw[s8 _ _ _ _ _ _ om,if_neg om]
theorem tk:∀(n:Nat)(l:List bU),1<=(di n l).length/\∃i,(di n l)[(di n l).length-1]? =some i/\i.op=6
 |0,l=>⟨by simp[di],_,rfl,rfl⟩
 |n+1,l=>by
  rcases aaq l.length 2 with h2|h2
  .match l,h2 with
   | [],_=>exact⟨by simp[di],_,rfl,rfl⟩
   | [p],_=>
    refine⟨by simp[di,d7],⟨6,0,0,0⟩,?_,rfl⟩
    have:=k9 p.aN;rw[J0,d7,aax,ig,show 2*p.aN.length+2+1-1=2*p.aN.length+1+1 by omega,aa9]
    exact this
  .rw[mK h2];obtain⟨h1,i,h3,h4⟩:=tk n (l.drop (l.length/2));refine⟨aG,i,?_,h4⟩;simp only[aax,aa3];rw[show(di n (l.take (l.length/2))).length+(di n (l.drop (l.length/2))).length+1+1-1=(di n (l.take (l.length/2))).length+((di n (l.drop (l.length/2))).length-1)+1+1 by omega,
    aa9,aa9,aan om]
   rw[<-h3];congr 1;omega
theorem oY:∀(n:Nat)(l:List bU),(∀p,p∈l->p.aN.length<=3)->l.length<=n->(l=[]->(di n l).length=1)/\(l≠[]->(di n l).length+2<=11*l.length)
 |0,l,_,hl=>by have:l=[]:=aat om;subst this;simp[di]
 |n+1,l,h,hl=>by
  rcases aaq l.length 2 with h2|h2
  .match l,h2 with
   | [],_=>simp[di]
   | [p],_=>
    have:=h p aG;simp[di,d7,ig];omega
  .refine⟨fun e=>by subst e;simp at h2,fun _=>?_⟩
   have i1:=(oY n (l.take (l.length/2)) (fun p hp=>h p (aa1 hp)) (by rw[aaz];omega)).2 (fun e=>by have:=congrArg List.length e;rw[aaz,aaT]at this;omega)
   have i2:=(oY n (l.drop (l.length/2)) (fun p hp=>h p (abt hp)) (by rw[aa4];omega)).2 (fun e=>by have:=congrArg List.length e;rw[aa4,aaT]at this;omega)
   rw[mK h2];simp only[aax,aa3];rw[aaz]at i1;rw[aa4]at i2;omega
theorem w8:∀(n:Nat)(l:List bU)(a s:Nat),(∀p,p∈l->zo p)->l.length<=n->a+(di n l).length<=s->wZ (di n l) a s
 |0,l,a,s,_,_,_=>.cons (by rw[wS];simp) fun j i hi=>by simp at hi
 |n+1,l,a,s,hg,hl,h=>by
  rcases aaq l.length 2 with h2|h2
  .match l,h2 with
   | [],_=>exact .cons (by rw[wS];simp) fun j i hi=>by simp at hi
   | [p],_=>exact NH (hg p aG) h
  .rw[mK h2]at h⊢;have hk:l.length/2<l.length:=om;have hm:l[l.length/2]? =some l[l.length/2]:=aab hk;have EP:x7 l=(l[l.length/2]).call:=by rw[x7,hm]
   have Uf:=hg _ (aau hk);have hp:=(tk n (l.drop (l.length/2))).1;simp only[aax,aa3]at h;refine .cons ?_ (.cons ?_ (.append (w8 n _ _ s (fun p hp=>hg p (aa1 hp)) (by rw[aaz];omega) om) (w8 n _ _ s (fun p hp=>hg p (abt hp)) (by rw[aa4];omega) om)))
   .rw[s8 _ _ _ _ _ _ om,EP,if_neg (by have:=Uf.1;have:=Uf.2.1;omega)]
   .rw[Nk _ _ _ _ _ om,if_neg om];simp
def dy(l:List bU):List dB:=⟨1,0,0,0⟩::di l.length l
theorem Gl{l:List bU}(hg:∀p,p∈l->zo p)(hl:l.length<=30):jH (dy l)=(0,0):=by
 have h1:=tk l.length l;have h2:=oY l.length l (fun p hp=>(hg p hp).2.2.1) (aaj _)
 have hlen:(dy l).length=(di l.length l).length+1:=by simp[dy]
 have h3:(di l.length l).length<=330:=by
  by_cases e:l=[]
  .have:=h2.1 e;omega
  .have:=h2.2 e;omega
 have jz:wZ (dy l) 0 ((dy l).length:Nat):=by refine .cons ?_ (w8 l.length l 1 (dy l).length hg (aaj _) om);rw[F4];simp
 obtain⟨h4,i,h5,h6⟩:=h1;have hc:=AP (dy l).length (dy l) 0 jz;have lN:(dy l)[(dy l).length-1]? =some i:=by
  rw[hlen,show(di l.length l).length+1-1=(di l.length l).length-1+1 by omega]
  exact h5
 rw[jH,if_neg om,hc,if_neg aG,lN];simp only;rw[if_pos h6]
theorem NI{l:List bU}(r:oC)(hg:∀p,p∈l->zo p)(hl:l.length<=30)(hs:gW l):(rI (dy l) r).1=if mL l r r.r0 then 1 else 0:=by
 rw[rI,Gl hg hl,if_pos rfl];have hA:At (dy l) 0 (dy l):=fun j i hi=>by simpa using hi
 rw[e8 hA.head (by decide) (d:=1) (acc2:=r.r0) rfl]
 have:=wY (P:=dy l) (r:=r) l.length l 1 r.r0 (aaj _) hs hA.tail;exact this
theorem J1{l l':List bU}(h:l'.Perm l)(r:oC)(dd:Int):mL l' r dd=mL l r dd:=by
 rw[ab6,mL,mL,aaM,aaM];constructor
 .rintro⟨p,hp,h2⟩;exact⟨p,h.mem_iff.1 hp,h2⟩
 .rintro⟨p,hp,h2⟩;exact⟨p,h.mem_iff.2 hp,h2⟩
def mM(l:List bU):Prop:=l.Pairwise fun a b=>a.call≠b.call
theorem J2{l:List bU}(h:mM l)(r:oC):gz l r=mL l r r.r0:=by
 induction l with
 |nil=>rfl
 |cons p q ih=>
  obtain⟨h1,h2⟩:=abG.1 h;have ih:=ih h2;rw[mL,acK];by_cases hc:p.call=r.r0
  .have hb:(p.call==r.r0)=true:=by simp[hc]
   have hq:mL q r r.r0=false:=tj fun x hx e=>h1 x hx (hc.trans e.symm)
   rw[mL]at hq;rw[hq,gz,List.find?_cons,hb];simp
  .have hb:(p.call==r.r0)=false:=by simpa using hc
   have e:gz (p::q) r=gz q r:=by rw[gz,gz,List.find?_cons,hb]
   rw[e,ih,hb,mL];simp
theorem x8{l l':List bU}(h:l'.Perm l)(hd:mM l):mM l':=(h.pairwise_iff (fun h=>Ne.symm h)).2 hd
theorem oF{l:List bU}(h:(bX l).1=0):l.length<=30/\(∀p,p∈l->zo p)/\mM l:=by
 unfold bX at h;split at h
 .simp at h
 .rename_i h0;have fl:∀j,j<l.length->fG l j=0:=by
   intro j
   induction j using Nat.strongRecOn with
   |_ j ih=>
    intro hj;by_cases hw:fG l j=0
    .exact hw
    .rw[nh l.length 0 j om om (fun i _ hi=>ih i hi om) hw]at h
     exact absurd h hw
  have fact:∀(j:Nat)p,l[j]? =some p->zo p/\∀q,q∈l.take j->q.call≠p.call:=by
   intro j p hj;have hw:=fl j (aac.1 hj).1;rw[fG,hj]at hw;simp only[fF]at hw;split at hw
   .simp at hw
   .rename_i c1;split at hw
    .simp at hw
    .rename_i c2;split at hw
     .simp at hw
     .rename_i c3;split at hw
      .simp at hw
      .rename_i c4;refine⟨⟨om,om,om,fun m hm=>?_⟩,fun q hq e=>?_⟩
       .have c4:p.aN.any jI=false:=by simpa using c4
        rw[List.any_eq_false]at c4;have hb:jI m=false:=by simpa using c4 m hm
        simp only[jI,ab0,decide_eq_false_iff_not]at hb;refine⟨om,om,om,om⟩
       .refine c2 (aaM.2 ⟨q,hq,by simp[e]⟩)
  refine⟨om,fun p hp=>?_,?_⟩
  .obtain⟨j,hj⟩:=aam hp;exact(fact j p hj).1
  .rw[mM,abi];intro i j hi hj pM;refine(fact j l[j] (aab hj)).2 l[i] ?_;exact aag (i:=i) (by rw[aaK,if_pos pM,aab hi])
theorem J3{l:List bU}(h:l.Pairwise fun a b=>¬b.call<a.call)(hd:mM l):gW l:=by have:=List.Pairwise.and h hd;exact this.imp fun⟨a,b⟩=>om
end Go.Proofs.YtojhmadmlnfpcaaGreatDoor
