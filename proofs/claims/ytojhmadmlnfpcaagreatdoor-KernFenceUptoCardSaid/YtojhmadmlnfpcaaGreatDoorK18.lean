/- Part 18 of 43: what the law stands on. -/
import Derived.Test.YtojhmadmlnfpcaaGreatDoorK16
import Derived.Test.YtojhmadmlnfpcaaGreatDoorK17
set_option linter.unusedVariables false
set_option linter.unusedSimpArgs false
set_option linter.unnecessarySimpa false
set_option maxRecDepth 100000
set_option maxHeartbeats 64000000
namespace Go.Proofs.YtojhmadmlnfpcaaGreatDoor
open Go.AM Go.ChangeShapes Go.WideShapes Go.ChangeAt Go.RowKit
def c122:LF:= ⟨33,[.tmp 6],(.seq (.ai [qu 6 (.aD qe)]) (.seq (.ai [qm 8 0,qm 9 1,qm 10 2,qm 11 0,qu 12 (.len 1 11),qu 13 (.nN 4 8 (some 9) (some 10) (some 12))]) (.seq (.seq (.ai [qm 14 1,qm 15 2,qu 16 (.aF .eql 14 15)]) (.cond 16 (.seq (.ai [qm 17 0,qm 6 17]) .ret) .skip)) (.seq (.ai [qm 18 0,qu 19 (.len 1 18),qm 7 19]) (.seq (.bQ [qm 20 0,qm 21 1,qu 22 (.nN 4 20 none (some 21) none),qm 23 0,qm 24 2,qu 25 (.nN 4 23 (some 24) none none),qu 26 (.nO 4 48 22 25),qm 0 26] [(.cons 0 none (.cons 1 none (.cons 2 none (.cons 3 none (.cons 4 none (.cons 5 none (.cons 6 (some []) (.cons 7 none .nil))))))))]) (.seq (.ai [qm 27 0,qm 28 0,qu 29 (.len 1 28),qm 30 7,qu 31 (.nN 4 27 (some 29) (some 30) none),qw (.Ta 4 [.aI,(.aa (.val (.bool false))),(qd 0),(qd 0)] 31)]) (.seq (.ai [qm 32 0,qm 6 32]) .ret)))))))⟩
def t6:List CC:=[.aI,.aa (.val (.bool false)),.aa (.val (.int .i64 0)),.aa (.val (.int .i64 0))]
theorem jF:∀ds:List (List Dt),fh (af ds)=true
 | []=>rfl
 |d::r=>by
  have h1:∀e:List Dt,pD (e.map CC.aa)=true:=by
   intro e
   induction e with
   |nil=>rfl
   |cons x e ih=>simpa[pD,CC.iN]using ih
  have:=jF r;simp only[af,aaX,fh]at this⊢;rw[h1,this];rfl
theorem l122:bs Tryz.prog Tryz.f122=some c122:=by kernel_rfl
def fB(x:bw)(r:List bw):List (List CC):=af (r.map bw.enc)++ [t6]
theorem LM(x:bw)(r:List bw)(hl:r.length<=4194303):body Tryz.prog c122 [.rv (.one (.row 0 4 0 none)),an .i64 0,an .i64 1] [.row 4 (af ((x::r).map bw.enc))] (fun v m=>v= .rv (.one (.row 0 4 0 (some r.length)))/\m=[.row 4 (fB x r)]):=by
 have hlen:(af ((x::r).map bw.enc)).length=r.length+1:=by simp[af]
 have QN:(af ((x::r).map bw.enc)).drop 1=af (r.map bw.enc):=rfl;generalize af ((x::r).map bw.enc)=D at hlen QN;have hL:lenOf D.length 0 none=r.length+1:=by rw[iu,hlen];rfl
 have hE:cw D 1 (some (r.length+1))=af (r.map bw.enc):=by rw[lF];simp only;rw[<-hlen,aaO,QN]
 have G8:(af (r.map bw.enc)).length=r.length:=by simp[af]
 refine cF ?_ ?_
 .show(Nat.ble 0 1&&(Nat.ble 1 (lenOf D.length 0 none)&&Nat.ble (lenOf D.length 0 none) (cw D 0 none).length))=true;rw[hL];simp[cw,hlen,aaR]
 rw[hL];refine cF ?_ ?_
 .show(Nat.ble 1 (lenOf D.length 0 none)&&Nat.ble (lenOf D.length 0 none) (D.length-0))=true;rw[hL,hlen];simp[aaR]
 rw[hL];refine cF ?_ ?_
 .show(Nat.beq 0 0&&(Nat.beq 4 4&&(Nat.beq 4 4&&(Nat.ble 1 D.length&&(Nat.ble (0+(cw D 1 (some (r.length+1))).length) D.length&&fh (cw D 1 (some (r.length+1))))))))=true;rw[hE,jF,G8,hlen];simp[aaR]
 refine⟨?_,?_⟩
 .rw[hlen];omega
 refine⟨trivial,?_⟩;have zS:(cN D 0 (af (r.map bw.enc))).length=r.length+1:=by rw[vz (by rw[G8,hlen];omega),hlen]
 refine cF ?_ ?_
 .simp only[lB,aaS,hE,G8,iu,aa5,abC,zS];simp[aaR]
 refine cF ?_ ?_
 .simp only[lB,aaS,hE,G8,iu,aa5,abC,zS,pE];simp[aaR]
 refine cF ?_ ?_
 .simp only[lB,aaS,hE,G8,iu,aa5,abC,zS,pE];simp[abe]
 have eO:cN (cN D 0 (af (r.map bw.enc))) r.length (gg 1 t6)=fB x r:=by
  have h1:cN D 0 (af (r.map bw.enc))=af (r.map bw.enc)++D.drop r.length:=by simp[cN,G8]
  rw[h1];simp only[cN,fA,fB];rw[List.take_append_of_le_length (by rw[G8];exact aaj _),abm (by rw[G8];exact aaj _)]
  congr 1;have:(af (r.map bw.enc)++D.drop r.length).length=r.length+1:=by simp[G8,hlen]
  rw[List.drop_of_length_le (by rw[this];simp)]
  rfl
 refine⟨?_,?_⟩
 .show CV.rv (.one (.row 0 4 0 (some (0+(cw D (ii 0 1) (some (ii 0 (r.length+1)))).length))))=_;simp only[lB,aaS,hE,G8]
 .rw[<-eO];show [Bk.row 4 (cN (cN D 0 (cw D (ii 0 1) (some (ii 0 (r.length+1))))) _ (gg (_-_) t6))]=_;simp only[lB,aaS,hE,G8,iu,aa5,abC,zS,pE,Nat.add_sub_cancel_left]
theorem R6(x:bw)(r:List bw)(hl:r.length<=4194303){m:Mem}{K:CV->Mem->Prop}(id:Nat)(hb:df m id=some (.row 4 (af ((x::r).map bw.enc))))(h:K (.rv (.one (.row id 4 0 (some r.length)))) (ba m id (.row 4 (fB x r)))):
  ar Tryz.prog 122 [.rv (.one (.row id 4 0 none)),an .i64 0,an .i64 1] m K:=by
 have hid:id<m.length:=by rw[aX]at hb;exact(aac.1 hb).1
 refine bC [id] m.length rfl rfl rfl (by simp[fm,hid]) (args0:=[.rv (.one (.row 0 4 0 none)),an .i64 0,an .i64 1]) rfl (fun i b' hi=>?_) (aZ Tryz.func122 l122 (LM x r hl)) (fun r1 m1 hr=>?_)
 .cases i with
  |zero=>
   simp at hi;subst hi;refine .inr ⟨fun h=>h,_,?_,.bV rfl⟩
   rw[aX]at hb;exact hb
  |succ i=>simp at hi
 .obtain⟨rfl,rfl⟩:=hr;refine⟨aaj _,?_⟩;have YB:(Bk.row 4 (fB x r)).aQ (sg [id] m.length)= .row 4 (fB x r):=by simp only[Bk.aQ,fB,aaU,dC];rfl
  show K (.rv (.one (.row id 4 0 (some r.length)))) (dn m [id] [(Bk.row 4 (fB x r)).aQ (sg [id] m.length)]);rw[YB];simp only[dn,cr,abI];exact h
def c82:LF:= ⟨78,[.tmp 4,.cell true 4 5,.tmp 6],(.seq (.ai [qu 4 (.aD qe),qu 5 (.alloc [.aI,(.aa (.val (.bool false))),(qd 0),(qd 0)]),qu 6 (.aD (qi 0))]) (.seq (.seq (.ai [qm 10 1,qu 11 (.aF .lss 10 (qi 0)),qm 12 11,qg 13 (.aD 1) 12 false,qg 14 (.aD 0) 12 false,qg 15 (.len 1 14) 12 false,qg 16 (.aF .geq 13 15) 12 false,qu 17 (.pick 12 (qb true) 16),qm 18 17,qg 19 (.aD 0) 18 false,qg 20 (.aD 1) 18 false,qg 21 (.bO 9 19 20) 18 false,qg 22 (.bg 0 21) 18 false,qg 23 (.load false 1 22) 18 false,qg 24 (.aF .neq 23 (qi 4)) 18 false,qu 25 (.pick 18 (qb true) 24)]) (.cond 25 (.seq (.ai [qu 26 (.build [.aI,(.aa (.val (.bool false))),(qd 0),(qd 0)] []),qu 4 (.aD qe),qw (.store 4 5 26),qu 6 (.aD (qi 8))]) .ret) .skip)) (.seq (.seq (.ai [qm 27 0,qm 28 1,qu 29 (.bO 9 27 28),qf 30 5 29,ql 31 30,qu 32 (.len 1 31),qu 33 (.aF .eql 32 (qi 0))]) (.cond 33 (.seq (.seq (.ai [qm 34 0,qm 35 1,qu 36 (.bO 9 34 35),qf 37 4 36,ql 38 37,qm 7 38]) (.seq (.ai [qm 39 7,qu 40 (.aF .lss 39 (qi 0)),qm 41 40,qg 42 (.aD 7) 41 false,qg 43 (.aD 0) 41 false,qg 44 (.len 1 43) 41 false,qg 45 (.aF .geq 42 44) 41 false,qu 46 (.pick 41 (qb true) 45),qm 47 46,qg 48 (.aD 0) 47 false,qg 49 (.aD 7) 47 false,qg 50 (.bO 9 48 49) 47 false,qg 51 (.bg 0 50) 47 false,qg 52 (.load false 1 51) 47 false,qg 53 (.aF .neq 52 (qi 4)) 47 false,qu 54 (.pick 47 (qb true) 53)]) (.cond 54 (.seq (.ai [qu 55 (.build [.aI,(.aa (.val (.bool false))),(qd 0),(qd 0)] []),qu 4 (.aD qe),qw (.store 4 5 55),qu 6 (.aD (qi 17))]) .ret) .skip))) (.seq (.ai [qu 56 (.build [.aI,(.aa (.val (.bool false))),(qd 0),(qd 0)] []),qu 4 (.aD qe),qw (.store 4 5 56),qu 6 (.aD (qi 16))]) .ret)) .skip)) (.seq (.ai [qm 57 0,qu 58 (qc 105 [57]),qm 8 58]) (.seq (.ai [qm 59 8,qm 60 1,qu 61 (.bO 9 59 60),qf 62 5 61,ql 63 62,qu 64 (.bO 4 63 (qi 0)),qL 65 4 64,qu 9 (.alloc [.aI,(.aa (.val (.bool false))),(qd 0),(qd 0)]),qw (.store 4 9 65)]) (.seq (.ai [qm 66 8,qm 67 1,qm 68 8,qm 69 1,qu 70 (.bO 9 68 69),qf 71 5 70,ql 72 71,qu 73 (qc 122 [72,(qi 0),(qi 1)]),qu 74 (.bO 9 66 67),qf 75 5 74,qw (.store 1 75 73)]) (.seq (.bQ [qm 76 8,qL 77 4 9,qm 4 76,qw (.store 4 5 77),qu 6 (.aD (qi 0))] [(.cons 0 none (.cons 1 none (.cons 2 none (.cons 3 (some []) (.cons 4 none .nil)))))]) .ret)))))))⟩
def mE:bw:=⟨[],false,0,0⟩
def bw.rv(m:bw):RV:= .agg (m.enc.map .aa)
def fw(l:List Obj)(e:Int):List Obj×bw×Int:=
 if e<0\/e>=l.length then([],mE,8)else match l[e.toNat]? with
 |none=>([],mE,8)
 |some o=>if o.ah≠4 then([],mE,8)else match o.aj with
  | []=>if o.aJ<0\/o.aJ>=l.length then([],mE,17)else match l[o.aJ.toNat]? with
   |none=>([],mE,17)
   |some q=>if q.ah≠4 then([],mE,17)else([],mE,16)
  |x::r=>(l.set e.toNat {o with aj:=r},x,0)
def vQ(x:List Obj×bw×Int):CV:= .bF [mD x.1,x.2.1.rv,cH x.2.2]
theorem vw3{σ:Nat->Nat}{m:Mem}{Z:Nat->Prop}{a b c d:RV}{x:Int}(h:xH σ m Z a b)(hc:xH σ m Z c d):qv σ m Z (.bF [a,c,cH x]) (.bF [b,d,cH x]):=by
 refine .bF rfl fun i r r' h1 h2=>?_
 match i,h1,h2 with
 |0,h1,h2=>cases h1;cases h2;exact h
 |1,h1,h2=>cases h1;cases h2;exact hc
 |2,h1,h2=>cases h1;cases h2;exact .one (.aQ (.aa _))
theorem vwZ{σ:Nat->Nat}{m:Mem}{Z:Nat->Prop}:xH σ m Z (.agg t6) mE.rv:=by
 refine .agg rfl fun i c c' h1 h2=>?_
 match i,h1,h2 with
 |0,h1,h2=>cases h1;cases h2;exact .fv (.aI 1)
 |1,h1,h2=>cases h1;cases h2;exact .aQ (.aa _)
 |2,h1,h2=>cases h1;cases h2;exact .aQ (.aa _)
 |3,h1,h2=>cases h1;cases h2;exact .aQ (.aa _)
 |n+4,h1,h2=>simp[t6]at h1
theorem U6{σ:Nat->Nat}{m:Mem}{Z:Nat->Prop}(x:bw):xH σ m Z (.agg (x.enc.map .aa)) x.rv:=by
 refine .agg rfl fun i c c' h1 h2=>?_
 rw[h1]at h2;cases h2;rw[aaf]at h1;cases hd:x.enc[i]? with
 |none=>rw[hd]at h1;cases h1
 |some d=>
  rw[hd]at h1;cases h1;exact .aQ (.aa d)
theorem R7{m:Mem}{Z:Nat->Prop}{p:Option Nat}{id:Nat}{x:bw}{r:List bw}(hz:Z id)(hb:m[id]? =some (.row 4 (fB x r))):dP m Z p (.row id 4 0 (some r.length)) (.sl 4 (r.map bw.enc)):=by
 have h:=dP.row (m:=m) (Z:=Z) (p:=p) id 4 0 (some r.length) (fB x r) (r.map bw.enc++ [mE.enc]) hz hb (by simp[fB,af]) (fun i cs es h1 h2=>?_) (fun i cs es j c d h1 h2 h3 h4=>?_)
 .have:cw (r.map bw.enc++ [mE.enc]) 0 (some r.length)=r.map bw.enc:=by rw[lF];simp
  rw[this]at h;exact h
 .rcases aaq i r.length with hi|hi
  .rw[fB,aar (by simpa[af]using hi),af,aaf]at h1
   rw[aar (by simpa using hi)]at h2
   rw[h2]at h1;cases h1;simp
  .rw[fB,aan (by simpa[af]using hi)]at h1
   rw[aan (by simpa using hi)]at h2
   have e1:(af (r.map bw.enc)).length=r.length:=by simp[af]
   have e2:(r.map bw.enc).length=r.length:=aG;rw[e1]at h1;rw[e2]at h2;cases hn:i-r.length with
   |zero=>rw[hn]at h1 h2;cases h1;cases h2;rfl
   |succ n=>rw[hn]at h1;simp at h1
 .rcases aaq i r.length with hi|hi
  .rw[fB,aar (by simpa[af]using hi),af,aaf]at h1
   rw[aar (by simpa using hi)]at h2
   rw[h2]at h1;cases h1;rw[aaf,h4]at h3;cases h3;exact .aa _
  .rw[fB,aan (by simpa[af]using hi)]at h1
   rw[aan (by simpa using hi)]at h2
   have e1:(af (r.map bw.enc)).length=r.length:=by simp[af]
   have e2:(r.map bw.enc).length=r.length:=aG;rw[e1]at h1;rw[e2]at h2;cases hn:i-r.length with
   |zero=>
    rw[hn]at h1 h2;cases h1;cases h2
    match j,h3,h4 with
    |0,h3,h4=>cases h3;cases h4;exact .aI 1
    |1,h3,h4=>cases h3;cases h4;exact .aa _
    |2,h3,h4=>cases h3;cases h4;exact .aa _
    |3,h3,h4=>cases h3;cases h4;exact .aa _
    |n+4,h3,h4=>simp[t6]at h3
   |succ n=>rw[hn]at h1;simp at h1
theorem l82:bs Tryz.prog Tryz.f82=some c82:=by kernel_rfl
theorem sB(l:List Obj)(hf:jZ l)(e:Int):body Tryz.prog c82 [cg l,an .i64 e] [] (fun r m=>∃r' m',View 0 ⟨[r],m⟩ ⟨[r'],m'⟩/\r'=vQ (fw l e)/\m'=[]):=by
 have Kj:(((l.map Obj.enc).length:Nat):Int)=(l.length:Int):=aG;have bad:∀(x:Int),fw l e=([],mE,x)->∃r' m',View 0 ⟨[CV.bF [.one .aI,.agg t6,cH x]],[.var t6]⟩ ⟨[r'],m'⟩/\r'=vQ (fw l e)/\m'=[]:=by intro x hx;refine⟨_,_,View.o 1 [] [] (.put (vw3 (b:=mD []) (.one (.fv (.aI 9))) vwZ) .nil) (.nil _),?_,rfl⟩;rw[hx];rfl
 refine aB (fun h=>?_) (fun h1=>?_)
 .exact bad 8 (by rw[fw,if_pos (.inl h)])
 refine aB (fun h=>?_) (fun h2=>?_)
 .exact bad 8 (by rw[fw,if_pos (.inr (by rw[<-Kj];exact h))])
 have h2:¬e>=(l.length:Int):=by rw[<-Kj];exact h2
 obtain⟨k,rfl⟩:∃k:Nat,e=k:=⟨e.toNat,om⟩;have hk:k<l.length:=om;have hi:=aab hk;have oP:fw l (k:Int)=if l[k].ah≠4 then(([],mE,8):List Obj×bw×Int)else match l[k].aj with
   | []=>if l[k].aJ<0\/l[k].aJ>=l.length then([],mE,17)else match l[l[k].aJ.toNat]? with
    |none=>([],mE,17)
    |some q=>if q.ah≠4 then([],mE,17)else([],mE,16)
   |x::r=>(l.set k {l[k]with aj:=r},x,0):=by
  rw[fw,if_neg om,aaw,hi]
 have hg:cy (l.map Obj.enc) (k:Nat)=some (l[k].enc):=by rw[bl,aaf,hi];rfl
 have Oe:=hf.2 _ (aau hk);generalize l[k]=o at oP hg hi Oe;obtain⟨ah,data,ak,target,aJ,aj,aL,am,up⟩:=o;have hg:cy (l.map Obj.enc) (k:Nat)=some [.val (.int .i64 ah),.sl 1 data,.sl 2 ak,.val (.string target),.val (.int .i64 aJ),.sl 4 (aj.map bw.enc),.val (.int .i64 aL),.val (.int .i64 am),.val (.int .i64 up)]:=hg;refine ag hg ?_;refine br (fun h=>?_) (fun h3=>?_)
 .exact bad 8 (by rw[oP,if_pos h])
 have h3:ah=4:=h3;rw[if_neg (by simpa using h3)]at oP
 simp only at oP;refine ag hg ?_;cases aj with
 |nil=>
  simp only at oP;refine ag hg ?_;refine aB (fun h=>?_) (fun h4=>?_)
  .exact bad 17 (by rw[oP,if_pos (.inl h)])
  refine aB (fun h=>?_) (fun h5=>?_)
  .exact bad 17 (by rw[oP,if_pos (.inr (by rw[<-Kj];exact h))])
  have h5:¬aJ>=(l.length:Int):=by rw[<-Kj];exact h5
  have h4:¬aJ<0:=h4;obtain⟨p,rfl⟩:∃p:Nat,aJ=p:=⟨aJ.toNat,om⟩;have hp:p<l.length:=om;have QM:=aab hp;rw[if_neg om,aaw,QM]at oP;simp only at oP;have ur:cy (l.map Obj.enc) (p:Nat)=some (l[p].enc):=by rw[bl,aaf,QM];rfl
  generalize l[p]=q at oP ur;have ur:cy (l.map Obj.enc) (p:Nat)=some [.val (.int .i64 q.ah),.sl 1 q.data,.sl 2 q.ak,.val (.string q.target),.val (.int .i64 q.aJ),.sl 4 (q.aj.map bw.enc),.val (.int .i64 q.aL),.val (.int .i64 q.am),.val (.int .i64 q.up)]:=ur;refine ag ur ?_;refine br (fun h=>?_) (fun h6=>?_)
  .exact bad 17 (by rw[oP,if_pos h])
  .exact bad 16 (by rw[oP,if_neg (by simpa using h6)])
 |cons x r=>
  simp only at oP;have Bq:(x::r).length<=4194304:=Oe.2.2.1;refine vN l hf k ?_;rw[LK hi];have sA:dU (k:Int) (lenOf (eD k 2 0 l).length 0 none)=some k:=bT (by simp[lenOf,mB];omega)
  have nH:=Cf (Q:=2) hi;refine ag sA ?_;refine ag nH ?_;refine ag sA ?_;refine ag nH ?_;refine R6 x r (by simp at Bq;omega) 2 rfl ?_
  refine ag sA ?_;refine ag nH ?_;refine⟨trivial,?_⟩;refine⟨vQ (fw l k),[],View.o 4 [] [1,2] ?_ (.nil _),rfl,rfl⟩;rw[oP];refine .put (vw3 (.one (.fv ?_)) (U6 x)) .nil;exact G7 (p:=k) (Q:=2) (l:=l) (q:=⟨ah,data,ak,target,aJ,r,aL,am,up⟩) (c:= .row 2 4 0 (some r.length)) rfl (by rw[<-aX];rfl) (R7 (x:=x) rfl (by rw[<-aX];rfl))
theorem OV(l:List Obj)(hf:jZ l)(e:Int){m:Mem}{K:CV->Mem->Prop}(h:K (vQ (fw l e)) m):ar Tryz.prog 82 [cg l,an .i64 e] m K:=by
 refine bb (K0:=fun r m=>r=vQ (fw l e)/\m=[]) (bN (aZ Tryz.func82 l82 (sB l hf e)) fun r m1⟨r',m',hv,hp⟩=>⟨r',m',hv,hp⟩) (by simp[cg,an,CV.dx,CC.dx,RV.dx]) fun r m1 hr=>?_
 obtain⟨rfl,rfl⟩:=hr;exact⟨_,cJ.self rfl,h⟩
def fM(l:List Int):List (List Dt):=l.map fun b=>[.val (.int .u8 b)]
theorem Cg{m:Mem}{id:Nat}{b:Bk}:dn m [id] [b]=ba m id b:=by simp only[dn,cr,abI]
def c22:LF:= ⟨27,[.tmp 4],(.seq (.ai [qu 4 (.aD (qb false))]) (.seq (.seq (.ai [qm 6 0,qu 7 (.len 1 6),qm 8 1,qu 9 (.len 1 8),qu 10 (.aF .neq 7 9)]) (.cond 10 (.seq (.ai [qu 4 (.aD (qb false))]) .ret) .skip)) (.seq (.seq (.ai [qm 11 0,qu 12 (.len 1 11),qu 13 (.aD (qi 0))]) (.block 0 (.loop (.seq (.ai [qu 14 (.aF .lss 13 12)]) (.seq (.cond 14 .skip (.exit 0)) (.seq (.block 1 (.seq (.ai [qm 15 13,qm 5 15]) (.seq (.bQ [qm 16 0,qm 17 5,qu 18 (.bO 9 16 17),qL 19 9 18,qm 20 1,qm 21 5,qu 22 (.bO 9 20 21),qL 23 9 22,qu 24 (qc 47 [19,23]),qu 25 (.un .not 24)] [(.cons 0 none (.cons 1 none (.cons 2 none (.cons 3 none (.cons 4 none (.cons 5 none (.cons 6 none (.cons 7 none (.cons 8 (some []) (.cons 9 none .nil))))))))))]) (.cond 25 (.seq (.ai [qu 4 (.aD (qb false))]) .ret) .skip)))) (.ai [qu 26 (.aF .add 13 (qi 1)),qm 13 26]))))))) (.seq (.ai [qu 4 (.aD (qb true))]) .ret))))⟩
def c47:LF:= ⟨132,[.tmp 4],(.seq (.ai [qu 2 (.box 0),qu 3 (.box 1),qu 4 (.aD (qb false))]) (.seq (.seq (.ai [qf 9 0 2,ql 10 9,qf 11 0 3,ql 12 11,qu 13 (.aF .neq 10 12),qm 14 13,qg 15 (.bg 1 2) 14 false,qg 16 (.load false 1 15) 14 false,qg 17 (.Kv 16) 14 false,qg 18 (.bg 1 3) 14 false,qg 19 (.load false 1 18) 14 false,qg 20 (.Kv 19) 14 false,qg 21 (.aF .neq 17 20) 14 false,qu 22 (.pick 14 (qb true) 21),qm 23 22,qg 24 (.bg 3 2) 23 false,qg 25 (.load false 1 24) 23 false,qg 26 (.bg 3 3) 23 false,qg 27 (.load false 1 26) 23 false,qg 28 (.aF .neq 25 27) 23 false,qu 29 (.pick 23 (qb true) 28),qm 30 29,qg 31 (.bg 4 2) 30 false,qg 32 (.load false 1 31) 30 false,qg 33 (.bg 4 3) 30 false,qg 34 (.load false 1 33) 30 false,qg 35 (.aF .neq 32 34) 30 false,qu 36 (.pick 30 (qb true) 35),qm 37 36,qg 38 (.bg 6 2) 37 false,qg 39 (.load false 1 38) 37 false,qg 40 (.bg 6 3) 37 false,qg 41 (.load false 1 40) 37 false,qg 42 (.aF .neq 39 41) 37 false,qu 43 (.pick 37 (qb true) 42),qm 44 43,qg 45 (.bg 7 2) 44 false,qg 46 (.load false 1 45) 44 false,qg 47 (.bg 7 3) 44 false,qg 48 (.load false 1 47) 44 false,qg 49 (.aF .neq 46 48) 44 false,qu 50 (.pick 44 (qb true) 49),qm 51 50,qg 52 (.bg 8 2) 51 false,qg 53 (.load false 1 52) 51 false,qg 54 (.bg 8 3) 51 false,qg 55 (.load false 1 54) 51 false,qg 56 (.aF .neq 53 55) 51 false,qu 57 (.pick 51 (qb true) 56),qm 58 57,qg 59 (.bg 2 2) 58 false,qg 60 (.load false 1 59) 58 false,qg 61 (.len 1 60) 58 false,qg 62 (.bg 2 3) 58 false,qg 63 (.load false 1 62) 58 false,qg 64 (.len 1 63) 58 false,qg 65 (.aF .neq 61 64) 58 false,qu 66 (.pick 58 (qb true) 65),qm 67 66,qg 68 (.bg 5 2) 67 false,qg 69 (.load false 1 68) 67 false,qg 70 (.len 1 69) 67 false,qg 71 (.bg 5 3) 67 false,qg 72 (.load false 1 71) 67 false,qg 73 (.len 1 72) 67 false,qg 74 (.aF .neq 70 73) 67 false,qu 75 (.pick 67 (qb true) 74)]) (.cond 75 (.seq (.ai [qu 4 (.aD (qb false))]) .ret) .skip)) (.seq (.seq (.ai [qf 76 2 2,ql 77 76,qu 78 (.len 1 77),qu 79 (.aD (qi 0))]) (.block 0 (.loop (.seq (.ai [qu 80 (.aF .lss 79 78)]) (.seq (.cond 80 .skip (.exit 0)) (.seq (.block 1 (.seq (.ai [qm 81 79,qm 5 81]) (.seq (.bQ [qf 82 2 2,ql 83 82,qm 84 5,qu 85 (.bO 2 83 84),qL 86 2 85,qf 87 2 3,ql 88 87,qm 89 5,qu 90 (.bO 2 88 89),qL 91 2 90,qu 92 (.HW true [.s,.i] 86 91)] [(.cons 0 none (.cons 1 none (.cons 2 none (.cons 3 none (.cons 4 none (.cons 5 none (.cons 6 none (.cons 7 none (.cons 8 none (.cons 9 none (.cons 10 none .nil)))))))))))]) (.cond 92 (.seq (.ai [qu 4 (.aD (qb false))]) .ret) .skip)))) (.ai [qu 93 (.aF .add 79 (qi 1)),qm 79 93]))))))) (.seq (.seq (.ai [qf 94 5 2,ql 95 94,qu 96 (.len 1 95),qu 97 (.aD (qi 0))]) (.block 2 (.loop (.seq (.ai [qu 98 (.aF .lss 97 96)]) (.seq (.cond 98 .skip (.exit 2)) (.seq (.block 3 (.seq (.ai [qm 99 97,qm 6 99]) (.seq (.bQ [qf 100 5 2,ql 101 100,qm 102 6,qu 103 (.bO 4 101 102),qL 104 4 103,qf 105 5 3,ql 106 105,qm 107 6,qu 108 (.bO 4 106 107),qL 109 4 108,qu 7 (.alloc [.aI,(.aa (.val (.bool false))),(qd 0),(qd 0)]),qu 8 (.alloc [.aI,(.aa (.val (.bool false))),(qd 0),(qd 0)]),qw (.store 4 7 104),qw (.store 4 8 109)] [(.cons 0 none (.cons 1 none (.cons 2 none (.cons 3 none (.cons 4 none (.cons 5 none (.cons 6 none (.cons 7 none (.cons 8 none (.cons 9 none (.xK (.cons 10 (some [9,8,6,4,3,1]) (.cons 11 (some [9,8,6,4,3,1]) (.cons 12 (some [9,8,6]) (.cons 13 (some []) .nil)))) (.cons 11 (some [9,8,6,4,3,1]) (.cons 10 (some [9,8,6,4,3,1]) (.cons 12 (some [9,8,6]) (.cons 13 (some []) .nil)))))))))))))))]) (.seq (.ai [qf 110 0 7,ql 111 110,qu 112 (.Kv 111),qf 113 0 8,ql 114 113,qu 115 (.Kv 114),qu 116 (.aF .neq 112 115),qm 117 116,qg 118 (.bg 1 7) 117 false,qg 119 (.load false 1 118) 117 false,qg 120 (.bg 1 8) 117 false,qg 121 (.load false 1 120) 117 false,qg 122 (.beq true 119 121) 117 false,qu 123 (.pick 117 (qb true) 122),qm 124 123,qg 125 (.bg 2 7) 124 false,qg 126 (.load true 2 125) 124 false,qg 127 (.bg 2 8) 124 false,qg 128 (.load true 2 127) 124 false,qg 129 (.HW true [.i,.i] 126 128) 124 false,qu 130 (.pick 124 (qb true) 129)]) (.cond 130 (.seq (.ai [qu 4 (.aD (qb false))]) .ret) .skip))))) (.ai [qu 131 (.aF .add 97 (qi 1)),qm 97 131]))))))) (.seq (.ai [qu 4 (.aD (qb true))]) .ret)))))⟩
theorem gj:∀b:List Int,tz ((fM b).map fun ds=>ds.map .aa)=some b
 | []=>rfl
 |x::r=>by have:=gj r;simp only[fM,aaX,acr]at this⊢;simp only[tz,this]
def fq(e:ByteArray×Int):List Dt:=[.val (.string e.1),.val (.int .i64 e.2)]
def bw.Kk(q:bw):Prop:=∃b:List Int,q.data=fM b
def Obj.Kk(o:Obj):Prop:=(∃b:List Int,o.data=fM b)/\(∃es:List (ByteArray×Int),o.ak=es.map fq)/\∀q,q∈o.aj->q.Kk
theorem l47:bs Tryz.prog Tryz.f47=some c47:=by kernel_rfl
theorem EK(o:Obj)(ht:o.Kk)(hf:o.mP):body Tryz.prog c47 [o.cv,o.cv] [] (fun r m=>r=ay true):=by
 obtain⟨⟨b,hb⟩,⟨es,he⟩,hq⟩:=ht;obtain⟨_,EI,Of,_⟩:=hf;obtain⟨ah,data,ak,target,aJ,aj,aL,am,up⟩:=o;simp only at hb he hq EI Of;subst hb he;rw[aad]at EI;refine dZ aG ?_;refine ag (gj b) ?_;refine ag (gj b) ?_;refine dZ aG ?_;refine dZ aG ?_;refine dZ aG ?_;refine dZ aG ?_;refine dZ aG ?_;refine dZ aG ?_;refine dZ aG ?_;refine dZ aG ?_;have vars:∀(f:Nat->Nat)(F:List Nat),True:=fun _ _=>trivial
 refine aO (fun k=>k<=es.length) [2,3,78] (fun k=>[(79,an .i64 (k:Nat))]) (fun _=>[.var (Obj.enc ⟨ah,fM b,es.map fq,target,aJ,aj,aL,am,up⟩|>.map .aa),.var (Obj.enc ⟨ah,fM b,es.map fq,target,aJ,aj,aL,am,up⟩|>.map .aa)]) (fun k=>es.length-k) 0 (aao _) ?_ (fun k hk=>?_)
 .refine View.o1 2 [0,1] [] ?_
  .exact .pe rfl rfl rfl (.pm rfl rfl rfl)
 have hk:k<=es.length:=hk;refine aB (fun h=>?_) (fun h=>?_)
 .have aC:k<es.length:=by have h:(k:Int)<((es.map fq).length:Int):=h;rw[aad]at h;omega
  have hg:cy (es.map fq) (k:Nat)=some [.val (.string es[k].1),.val (.int .i64 es[k].2)]:=by rw[bl,aaf,aab aC];rfl
  refine ag hg ?_;refine ag hg ?_;refine dZ aG ?_;refine⟨k+1,aC,(show es.length-(k+1)<es.length-k by omega),View.o 2 [0,1] [] ?_ ?_⟩
  .repeat(first|exact .nil|refine .ap ?_|refine .put (.aQ (aq om).symm) ?_|refine .eq rfl ?_)
  .exact .pe rfl rfl rfl (.pm rfl rfl rfl)
 .refine aO (fun k=>k<=aj.length) [2,3,96] (fun k=>[(97,an .i64 (k:Nat))]) (fun _=>[.var (Obj.enc ⟨ah,fM b,es.map fq,target,aJ,aj,aL,am,up⟩|>.map .aa),.var (Obj.enc ⟨ah,fM b,es.map fq,target,aJ,aj,aL,am,up⟩|>.map .aa)]) (fun k=>aj.length-k) 0 (aao _) ?_ (fun j hj=>?_)
  .refine View.o1 2 [0,1] [] ?_
   .exact .pe rfl rfl rfl (.pm rfl rfl rfl)
  have hj:j<=aj.length:=hj;refine aB (fun h=>?_) (fun h=>?_)
  .have aC:j<aj.length:=by have h:(j:Int)<((aj.map bw.enc).length:Int):=h;rw[aad]at h;omega
   have hg:cy (aj.map bw.enc) (j:Nat)=some (aj[j].enc):=by rw[bl,aaf,aab aC];rfl
   obtain⟨b2,jD⟩:=hq aj[j] (aau aC);generalize aj[j]=q at hg jD;obtain⟨dq,has,eT,cf⟩:=q;simp only at jD;subst jD;have hg:cy (aj.map bw.enc) (j:Nat)=some [.sl 1 (fM b2),.val (.bool has),.val (.int .i64 eT),.val (.int .i64 cf)]:=hg;refine ag hg ?_;refine ag hg ?_;refine⟨?_,?_⟩
   .refine⟨⟨rfl,ag hg rfl,rfl,rfl,ag hg rfl,rfl,trivial⟩,?_⟩;refine⟨⟨rfl,ag hg rfl,rfl,rfl,ag hg rfl,rfl,trivial⟩,?_⟩;refine⟨⟨rfl,ag hg rfl,rfl,trivial⟩,trivial,?_⟩;refine ag (gj b2) ?_;refine ag (gj b2) ?_;refine dZ aG ?_;refine dZ aG ?_;refine dZ aG ?_;refine⟨j+1,aC,(show aj.length-(j+1)<aj.length-j by omega),View.o 4 [0,1] [] ?_ ?_⟩
    .repeat(first|exact .nil|refine .ap ?_|refine .put (.aQ (aq om).symm) ?_|refine .eq rfl ?_)
    .exact .pe rfl rfl rfl (.pm rfl rfl rfl)
   .refine⟨⟨rfl,ag hg rfl,rfl,rfl,ag hg rfl,rfl,trivial⟩,?_⟩;refine⟨⟨rfl,ag hg rfl,rfl,rfl,ag hg rfl,rfl,trivial⟩,?_⟩;refine⟨⟨rfl,ag hg rfl,rfl,trivial⟩,trivial,?_⟩;refine ag (gj b2) ?_;refine ag (gj b2) ?_;refine dZ aG ?_;refine dZ aG ?_;refine dZ aG ?_;refine⟨j+1,aC,(show aj.length-(j+1)<aj.length-j by omega),View.o 4 [0,1] [] ?_ ?_⟩
    .repeat(first|exact .nil|refine .ap ?_|refine .put (.aQ (aq om).symm) ?_|refine .eq rfl ?_)
    .exact .pe rfl rfl rfl (.pm rfl rfl rfl)
  .exact rfl
theorem LN(o:Obj)(ht:o.Kk)(hf:o.mP){m:Mem}{K:CV->Mem->Prop}(h:K (ay true) m):ar Tryz.prog 47 [o.cv,o.cv] m K:=
 bm Tryz.func47 l47 rfl (aak rfl) (EK o ht hf) (by simp[Obj.cv,CV.dx,CC.dx,RV.dx]) rfl h
theorem l22:bs Tryz.prog Tryz.f22=some c22:=by kernel_rfl
theorem EL(l:List Obj)(hl:jZ l)(ht:∀o,o∈l->o.Kk):body Tryz.prog c22 [cg l,cg l] [] (fun r m=>r=ay true):=by
 obtain⟨hl,jr⟩:=hl;refine dZ aG ?_;refine aO (fun k=>k<=l.length) [0,1,12] (fun k=>[(13,an .i64 (k:Nat))]) (fun _=>[]) (fun k=>l.length-k) 0 (aao _) ?_ (fun k hk=>?_)
 .refine View.o 0 [] [] ?_ (.nil _);repeat(first|exact .nil|refine .ap ?_|refine .eq rfl ?_)
 have hk:k<=l.length:=hk;refine aB (fun h=>?_) (fun h=>?_)
 .have aC:k<l.length:=by have h:(k:Int)<((l.map Obj.enc).length:Int):=h;rw[aad]at h;omega
  have hg:cy (l.map Obj.enc) (k:Nat)=some (l[k].enc):=by rw[bl,aaf,aab aC];rfl
  have h1:=ht l[k] (aau aC);have h2:=jr l[k] (aau aC);generalize l[k]=x at hg h1 h2;have hg:cy (l.map Obj.enc) (k:Nat)=some [.val (.int .i64 x.ah),.sl 1 x.data,.sl 2 x.ak,.val (.string x.target),.val (.int .i64 x.aJ),.sl 4 (x.aj.map bw.enc),.val (.int .i64 x.aL),.val (.int .i64 x.am),.val (.int .i64 x.up)]:=hg;refine ag hg ?_;refine ag hg ?_;refine LN x h1 h2 ?_;refine⟨trivial,?_⟩;refine⟨k+1,aC,(show l.length-(k+1)<l.length-k by omega),View.o 0 [] [] ?_ (.nil _)⟩
  repeat(first|exact .nil|refine .ap ?_|refine .put (.aQ (aq om).symm) ?_|refine .eq rfl ?_)
 .exact rfl
theorem LP(l:List Obj)(hl:jZ l)(ht:∀o,o∈l->o.Kk){m:Mem}{K:CV->Mem->Prop}(h:K (ay true) m):ar Tryz.prog 22 [cg l,cg l] m K:=
 bm Tryz.func22 l22 rfl (aak rfl) (EL l hl ht) rfl rfl h
theorem OW{l:List Obj}{k:Nat}(h:k<l.length):cy (l.map Obj.enc) (k:Nat)=some [.val (.int .i64 l[k].ah),.sl 1 l[k].data,.sl 2 l[k].ak,.val (.string l[k].target),.val (.int .i64 l[k].aJ),.sl 4 (l[k].aj.map bw.enc),.val (.int .i64 l[k].aL),.val (.int .i64 l[k].am),.val (.int .i64 l[k].up)]:=by rw[bl,aaf,aab h];rfl
inductive pi(σ:Nat->Nat)(m:Mem)(Z:Nat->Prop):List CC->List CC->Prop
 |nil:pi σ m Z [] []
 |cons {c c':CC} {r r':List CC} (h:qt σ m Z none c c') (hr:pi σ m Z r r'):pi σ m Z (c::r) (c'::r')
theorem pi.len{σ:Nat->Nat}{m:Mem}{Z:Nat->Prop}{cs eu:List CC}(h:pi σ m Z cs eu):cs.length=eu.length:=by
 induction h<;>simp[*]
theorem pi.get{σ:Nat->Nat}{m:Mem}{Z:Nat->Prop}{cs eu:List CC}(h:pi σ m Z cs eu):∀(i:Nat)c c',cs[i]? =some c->eu[i]? =some c'->qt σ m Z none c c':=by
 induction h with
 |nil=>intro i c c' h;simp at h
 |cons h hr ih=>
  intro i c c' h1 h2;cases i with
  |zero=>simp at h1 h2;subst h1 h2;exact h
  |succ i=>exact ih i c c' (by simpa using h1) (by simpa using h2)
theorem pi.agg{σ:Nat->Nat}{m:Mem}{Z:Nat->Prop}{cs eu:List CC}(h:pi σ m Z cs eu):qv σ m Z (.rv (.agg cs)) (.rv (.agg eu)):= .rv (.agg h.len h.get)
structure Obj.sm(o:Obj):Prop where
 t:o.Kk
 d:o.data.length<=64
 e:o.ak.length<=8
 q:o.aj.length<=8
 qd:∀q,q∈o.aj->q.data.length<=64
theorem Obj.sm.mP{o:Obj}(h:o.sm):o.mP:=⟨by have:=h.d;omega,by have:=h.e;omega,by have:=h.q;omega,fun q hq=>by have:=h.qd q hq;omega⟩
theorem OX{es:List (ByteArray×Int)}{k:Nat}(h:k<es.length):cy (es.map fq) (k:Nat)=some [.val (.string es[k].1),.val (.int .i64 es[k].2)]:=by rw[bl,aaf,aab h];rfl
structure fH where
 has:Bool
 eT:Int
 cf:Int
def fH.enc(s:fH):List Dt:=[.val (.bool s.has),.val (.int .i64 s.eT),.val (.int .i64 s.cf)]
def xZ(l:List fH):Dt:= .sl 3 (l.map fH.enc)
def LQ(l:List fH):RV:= .one (.aa (xZ l))
def j7(l:List fH):CV:= .rv (.one (.aa (xZ l)))
theorem bI{α:Type}(f:α->List Dt)(l:List α){k:Nat}(h:k<l.length):df (af (l.map f)) k=some ((f l[k]).map .aa):=by rw[aX,af,aaf,aaf,aab h];rfl
theorem m5{α:Type}(f:α->List Dt)(l:List α)(k:Nat)(x:α):ba (af (l.map f)) k ((f x).map .aa)=af ((l.set k x).map f):=by rw[bn,af,af,aa6,aa6]
theorem od:∀a:List UInt8,Op.bytesLess a a=false
 | []=>rfl
 |x::r=>by simp[Op.bytesLess,od r]
theorem ri:∀{a b c:List UInt8},Op.bytesLess a b=true->Op.bytesLess b c=true->Op.bytesLess a c=true
 |a,[],_,h,_=>by cases a<;>simp[Op.bytesLess]at h
 |_,_::_,[],_,h=>by simp[Op.bytesLess]at h
 | [],_::_,_::_,_,_=>rfl
 |x::a,y::b,z::c,h1,h2=>by
  simp only[Op.bytesLess,abk,aap,decide_eq_true_eq,beq_iff_eq]at h1 h2⊢;rcases h1 with h1|⟨rfl,h1⟩
  .rcases h2 with h2|⟨rfl,h2⟩
   .exact .inl (UInt8.lt_trans h1 h2)
   .exact .inl h1
  .rcases h2 with h2|⟨rfl,h2⟩
   .exact .inl h2
   .exact .inr ⟨rfl,ri h1 h2⟩
theorem LR:∀a b:List UInt8,Op.bytesLess a b=true\/a=b\/Op.bytesLess b a=true
 | [],[]=>.inr (.inl rfl)
 | [],_::_=>.inl rfl
 |_::_,[]=>.inr (.inr rfl)
 |x::a,y::b=>by
  simp only[Op.bytesLess,abk,aap,decide_eq_true_eq,beq_iff_eq,List.cons.injEq];by_cases h:x<y
  .exact .inl (.inl h)
  .by_cases h2:y<x
   .exact .inr (.inr (.inl h2))
   .have e:x=y:=by have h3:¬x.toNat<y.toNat:=h;have h4:¬y.toNat<x.toNat:=h2;exact UInt8.toNat_inj.1 om
    subst e;rcases LR a b with h5|h5|h5
    .exact .inl (.inr ⟨rfl,h5⟩)
    .exact .inr (.inl ⟨rfl,h5⟩)
    .exact .inr (.inr (.inr ⟨rfl,h5⟩))
abbrev NE:=ByteArray×Int
def z8(a b:ByteArray):Prop:=Op.bytesLess a.toList b.toList=true
def EM(es:List NE):Prop:=es.Pairwise fun a b=>z8 a.1 b.1
def EN(a b:ByteArray):Bool:= !(Op.bytesLess a.toList b.toList||a.toList==b.toList)
theorem U7{a b:ByteArray}(h:EN a b=true):z8 b a:=by
 unfold EN at h;simp only[abg,ab0,beq_eq_false_iff_ne]at h;rcases LR a.toList b.toList with h1|h1|h1
 .rw[h.1]at h1;cases h1
 .exact absurd h1 h.2
 .exact h1
theorem R9{a b:ByteArray}(h:EN a b=false)(eW:a.toList≠b.toList):z8 a b:=by unfold EN at h;simp only[Bool.not_eq_false',abk,beq_iff_eq]at h;exact h.elim id fun h=>absurd h eW
structure LS(es:List NE)(x:NE)(k:Nat)(d:Bool)(dd:List NE):Prop where
 f:d=false->dd=es.take k/\∀(j:Nat)e,j<k->es[j]? =some e->EN e.1 x.1=false
 t:d=true->∃i,i<k/\dd=es.take i++x::(es.take k).drop i/\(∀(j:Nat)e,j<i->es[j]? =some e->EN e.1 x.1=false)/\∃e,es[i]? =some e/\EN e.1 x.1=true
theorem IP{es:List NE}{k:Nat}(h:k<es.length):es.take (k+1)=es.take k++ [es[k]]:=by rw[aa8,aab h];rfl
theorem LS.Bf{es:List NE}{x:NE}{k:Nat}{dd:List NE}(h:LS es x k false dd)(hk:k<es.length)(hg:EN es[k].1 x.1=true):LS es x (k+1) true (dd++ [x,es[k]]):=by
 obtain⟨h1,h2⟩:=h.f rfl;refine⟨fun h=>(by cases h),fun _=>⟨k,abp k,?_,h2,es[k],aab hk,hg⟩⟩
 rw[IP hk,h1,List.drop_left' (by simp;omega)]
def iK(x:NE):List NE->List NE
 | []=>[x]
 |e::r=>if EN e.1 x.1=true then x::e::r else e::iK x r
theorem Ch{x:NE}:∀{a b:List NE},(∀e,e∈a->EN e.1 x.1=false)->iK x (a++b)=a++iK x b
 | [],_,_=>rfl
 |e::a,b,h=>by
  show iK x (e::(a++b))=_;rw[iK,if_neg (by rw[h e aG];simp),Ch fun y hy=>h y (by simp[hy])]
  rfl
theorem OY{x e:NE}{r:List NE}(h:EN e.1 x.1=true):iK x (e::r)=x::e::r:=by rw[iK,if_pos h]
theorem rk{x:NE}:∀{es:List NE}{e:NE},e∈iK x es->e∈es\/e=x
 | [],e,h=>by simp[iK]at h;exact .inr h
 |y::r,e,h=>by
  rw[iK]at h;split at h
  .rcases aaJ.1 h with h|h
   .exact .inr h
   .exact .inl h
  .rcases aaJ.1 h with h|h
   .exact .inl (by simp[h])
   .rcases rk h with h|h
    .exact .inl (by simp[h])
    .exact .inr h
theorem Ci{x:NE}:∀es:List NE,(iK x es).length=es.length+1
 | []=>rfl
 |y::r=>by
  rw[iK];split
  .rfl
  .simp[Ci r]
theorem LU{es:List NE}{x:NE}(hs:EM es)(eW:∀e,e∈es->e.1.toList≠x.1.toList):EM (iK x es):=by
 induction es with
 |nil=>exact abG.2 ⟨aG,List.Pairwise.nil⟩
 |cons e r ih=>
  obtain⟨h1,h2⟩:=abG.1 hs;rw[iK];split
  .rename_i hg;have hx:=U7 hg;refine abG.2 ⟨fun y hy=>?_,hs⟩
   rcases aaJ.1 hy with rfl|hy
   .exact hx
   .exact ri hx (h1 y hy)
  .rename_i hg;rw[ab1]at hg;refine abG.2 ⟨fun y hy=>?_,ih h2 fun y hy=>eW y (by simp[hy])⟩
   rcases rk hy with hy|rfl
   .exact h1 y hy
   .exact R9 hg (eW e aG)
def Aa(es:List NE)(name:ByteArray)(n:Int):Prop:=(∃e,e∈es/\e.1.toList=name.toList/\n=e.2)\/(n= -1/\∀e,e∈es->e.1.toList≠name.toList)
def fx(es:List NE)(name:ByteArray):Int:=match es.find? (fun e=>decide (e.1.toList=name.toList))with
 |some e=>e.2
 |none=>-1
theorem vR{es:List NE}(hs:EM es){a b:NE}(ha:a∈es)(hb:b∈es)(h:a.1.toList=b.1.toList):a=b:=by
 obtain⟨i,hi⟩:=aam ha;obtain⟨j,hj⟩:=aam hb;obtain⟨Qn,eL⟩:=aac.1 hi;obtain⟨Bh,km⟩:=aac.1 hj;have hp:=abi.1 hs;rcases ach i j with h3|h3|h3
 .have:=hp i j Qn Bh h3;rw[eL,km,z8,h,od]at this;cases this
 .subst h3;rw[hi]at hj;cases hj;rfl
 .have:=hp j i Bh Qn h3;rw[eL,km,z8,h,od]at this;cases this
theorem ju(es:List NE)(name:ByteArray):Aa es name (fx es name):=by
 unfold fx;cases h:es.find? (fun e=>decide (e.1.toList=name.toList))with
 |some e=>
  have h1:=List.find?_some h;exact .inl ⟨e,List.mem_of_find?_eq_some h,by simpa using h1,rfl⟩
 |none=>exact .inr ⟨rfl,fun e he=>by simpa using acd.1 h e he⟩
theorem t7{es:List NE}(hs:EM es){name:ByteArray}{n k:Int}(h:Aa es name n)(h2:Aa es name k):n=k:=by
 rcases h with⟨e,he,h3,rfl⟩|⟨rfl,h3⟩
 .rcases h2 with⟨e',tE,h4,rfl⟩|⟨rfl,h4⟩
  .rw[vR hs he tE (h3.trans h4.symm)]
  .exact absurd h3 (h4 e he)
 .rcases h2 with⟨e',tE,h4,rfl⟩|⟨rfl,h4⟩
  .exact absurd h4 (h3 e' tE)
  .rfl
def noD:Dt:= .val (.slice none 0 0)
structure Ob where
 ah:Int
 data:List (List Dt)
 ak:List (List Dt)
 target:ByteArray
 aJ:Int
 aj:Dt
 aL:Int
 am:Int
 up:Int
def Ob.enc(o:Ob):List Dt:=[.val (.int .i64 o.ah),.sl 1 o.data,.sl 2 o.ak,.val (.string o.target),.val (.int .i64 o.aJ),o.aj,.val (.int .i64 o.aL),.val (.int .i64 o.am),.val (.int .i64 o.up)]
def OZ(l:List Ob):Dt:= .sl 9 (l.map Ob.enc)
def Ab(l:List Ob):CV:= .rv (.one (.aa (OZ l)))
def oe(l:List Ob)(k ah:Int):Bool:=decide (k>=0)&&(decide (k<l.length)&&match l[k.toNat]? with|none=>false|some o=>o.ah !=0&&(ah==0||o.ah==ah))
theorem mF{l:List Ob}{k:Nat}(h:k<l.length):cy (l.map Ob.enc) (k:Nat)=some [.val (.int .i64 l[k].ah),.sl 1 l[k].data,.sl 2 l[k].ak,.val (.string l[k].target),.val (.int .i64 l[k].aJ),l[k].aj,.val (.int .i64 l[k].aL),.val (.int .i64 l[k].am),.val (.int .i64 l[k].up)]:=by rw[bl,aaf,aab h];rfl
theorem LV{l:List Ob}{k:Int}(h:oe l k 0=true):∃n:Nat,k=n/\n<l.length:=by
 unfold oe at h;by_cases h0:k>=0
 .obtain⟨n,rfl⟩:∃n:Nat,k=n:=⟨k.toNat,om⟩;by_cases hn:n<l.length
  .exact⟨n,rfl,hn⟩
  .simp[hn]at h
 .simp[h0]at h
structure U8(n:Nat)(ah:Int)(ak:List (List Dt)):Prop where
 ex:∃es:List NE,ak=es.map fq/\EM es/\(∀e,e∈es->0<=e.2/\e.2<(n:Int))/\(ah≠2->es=[])
def nu:List Dt->NE
 | [.val (.string s),.val (.int .i64 n)]=>(s,n)
 |_=>(⟨#[]⟩,0)
theorem m6:∀es:List NE,(es.map fq).map nu=es
 | []=>rfl
 |e::r=>by show(nu (fq e))::((r.map fq).map nu)=_;rw[m6 r];rfl
def U9:LC->LC
 | .seq a _=>a
 |x=>x
def bK:LC->LC
 | .seq _ b=>b
 |x=>x
def pj:LC->LC
 | .cO a=>a
 |x=>x
structure bG where
 bv:Int
 dm:Int
def bG.enc(o:bG):List Dt:=[.val (.int .i64 o.bv),.val (.int .i64 o.dm)]
structure bi where
 aV:Bool
 fenced:Bool
 code:Int
 aU:List fH
def bi.enc(p:bi):List Dt:=[.val (.bool p.aV),.val (.bool p.fenced),.val (.int .i64 p.code),xZ p.aU]
def eA(l:List bG):Dt:= .sl 2 (l.map bG.enc)
def fC(l:List bi):Dt:= .sl 4 (l.map bi.enc)
def dJ(l:List Obj)(op:List bG)(ps:List bi):CV:= .rv (.agg [.aa (cX l),.aa (eA op),.aa (fC ps)])
inductive e7(σ:Nat->Nat)(m:Mem)(Z:Nat->Prop)(p:Option Nat):List CC->List CC->Prop
 |nil:e7 σ m Z p [] []
 |cons {c c':CC} {r r':List CC} (h:qt σ m Z p c c') (hr:e7 σ m Z p r r'):e7 σ m Z p (c::r) (c'::r')
theorem e7.get{σ:Nat->Nat}{m:Mem}{Z:Nat->Prop}{p:Option Nat}{cs eu:List CC}(h:e7 σ m Z p cs eu):∀(i:Nat)c',eu[i]? =some c'->∃c,cs[i]? =some c/\qt σ m Z p c c':=by
 induction h with
 |nil=>intro i c' h;simp at h
 |cons h hr ih=>
  intro i c' h2;cases i with
  |zero=>simp at h2;subst h2;exact⟨_,rfl,h⟩
  |succ i=>simpa using ih i c' (by simpa using h2)
theorem e7.var{σ:Nat->Nat}{m:Mem}{Z:Nat->Prop}{id:Nat}{cs eu:List CC}(h:e7 σ m Z (some id) cs eu):mZ σ m Z id (.var cs) (.var eu):= .var h.get
def z3:List CC:=[.aI,.aI,.aI]
theorem bc(ds:List (List Dt)):(af ds).length=ds.length:=by simp[af]
theorem dC(σ:Nat->Nat)(ds:List (List Dt)):(af ds).map (fun cs=>cs.map (CC.aQ σ))=af ds:=by simp[af,abU,CC.aQ]
theorem Va{σ:Nat->Nat}{m:Mem}{Z:Nat->Prop}{id:Nat}(l:List bi)(p:bi){c:CC}{X:List (List CC)}(hc:qt σ m Z (some id) c (.aa (xZ p.aU)))(hX:X=af (l.map bi.enc)++ [[.aa (.val (.bool p.aV)),.aa (.val (.bool p.fenced)),.aa (.val (.int .i64 p.code)),c]]):mZ σ m Z id (.row 4 X) (.row 4 (af ((l++ [p]).map bi.enc))):=by
 subst hX;have e:af ((l++ [p]).map bi.enc)=af (l.map bi.enc)++ [p.enc.map .aa]:=by simp[af]
 rw[e];refine .EG (dC σ _) rfl fun j c1 c2 h1 h2=>?_
 match j,h1,h2 with
 |0,h1,h2=>cases h1;cases h2;exact .aQ (.aa _)
 |1,h1,h2=>cases h1;cases h2;exact .aQ (.aa _)
 |2,h1,h2=>cases h1;cases h2;exact .aQ (.aa _)
 |3,h1,h2=>cases h1;cases h2;exact hc
 |n+4,h1,h2=>simp at h1
structure Mk where
 O:List Bool
 P:List Bool
def dv(L:List Bool)(i:Nat):Prop:=L[i]? =some true
def vO(l:List Obj)(z:Int)(i:Nat):Prop:=z=i/\∃o,l[i]? =some o/\o.ah≠0
def vP(ops:List bG)(z:Int)(c:Nat):Prop:=z=c/\c<ops.length
def sE(o:Obj)(z:Int):Prop:=∃nm:ByteArray,fq (nm,z)∈o.ak
def sQ(o:Obj)(z:Int):Prop:=∃q,q∈o.aj/\q.has=true/\q.eT=z
structure Step(l:List Obj)(ops:List bG)(E:Nat->Prop)(a b:Mk):Prop where
 lo:b.O.length=a.O.length
 lp:b.P.length=a.P.length
 mo:∀i,dv a.O i->dv b.O i
 mp:∀c,dv a.P c->dv b.P c
 co:∀i o,dv b.O i->¬dv a.O i->¬E i->l[i]? =some o->(∀z n,sE o z->vO l z n->dv b.O n)/\(∀z c,sQ o z->vP ops z c->dv b.P c)
 cp:∀c o,dv b.P c->¬dv a.P c->ops[c]? =some o->∀n,vO l o.bv n->dv b.O n
structure Cl(l:List Obj)(ops:List bG)(RO RP:Nat->Prop):Prop where
 e:∀i o,RO i->l[i]? =some o->∀z n,sE o z->vO l z n->RO n
 q:∀i o,RO i->l[i]? =some o->∀z c,sQ o z->vP ops z c->RP c
 p:∀c o,RP c->ops[c]? =some o->∀n,vO l o.bv n->RO n
def Oh(RO RP:Nat->Prop)(a:Mk):Prop:=(∀i,dv a.O i->RO i)/\(∀c,dv a.P c->RP c)
def ec(L:List Bool):Nat:=(L.filter (fun b=>!b)).length
def Mk.mu(a:Mk):Nat:=ec a.O+ec a.P
theorem Step.refl{l:List Obj}{ops:List bG}{E:Nat->Prop}(a:Mk):Step l ops E a a:=
 ⟨rfl,rfl,fun _ h=>h,fun _ h=>h,fun _ _ h h2=>absurd h h2,fun _ _ h h2=>absurd h h2⟩
theorem Step.trans{l:List Obj}{ops:List bG}{E:Nat->Prop}{a b c:Mk}(h1:Step l ops E a b)(h2:Step l ops (fun _=>False) b c):Step l ops E a c:=by
 refine⟨h2.lo.trans h1.lo,h2.lp.trans h1.lp,fun i h=>h2.mo i (h1.mo i h),fun i h=>h2.mp i (h1.mp i h),fun i o hi hn hE ho=>?_,fun i o hi hn ho n hv=>?_⟩
 .by_cases hb:dv b.O i
  .obtain⟨k1,k2⟩:=h1.co i o hb hn hE ho;exact⟨fun z n hz hv=>h2.mo n (k1 z n hz hv),fun z c hz hv=>h2.mp c (k2 z c hz hv)⟩
  .exact h2.co i o hi hb (fun h=>h) ho
 .by_cases hb:dv b.P i
  .exact h2.mo n (h1.cp i o hb hn ho n hv)
  .exact h2.cp i o hi hb ho n hv
theorem kz:∀(a b:List Bool),b.length=a.length->(∀i,dv a i->dv b i)->ec b<=ec a
 | [],[],_,_=>aaj _
 | [],_::_,h,_=>by simp at h
 |_::_,[],h,_=>by simp at h
 |x::a,y::b,h,hm=>by
  have ih:=kz a b (by simpa using h) (fun i hi=>by simpa[dv]using hm (i+1) (by simpa[dv]using hi))
  have h0:x=true->y=true:=fun hx=>by simpa[dv]using hm 0 (by simp[dv,hx])
  unfold ec at ih⊢;cases x<;>cases y<;>simp at h0⊢<;>omega
theorem pR:∀(a:List Bool)(n:Nat),a[n]? =some false->ec (a.set n true)+1=ec a
 | [],n,h=>by simp at h
 |x::a,0,h=>by simp at h;subst h;simp[ec]
 |x::a,n+1,h=>by
  have ih:=pR a n (by simpa using h)
  unfold ec at ih⊢;cases x<;>simp at ih⊢<;>omega
theorem Ha{L:List Bool}{n i:Nat}(h:dv L i):dv (L.set n true) i:=by
 unfold dv at h⊢;rw[aaQ];split
 .rename_i e;subst e;have:=(aac.1 h).1;simp[this]
 .exact h
theorem rl{L:List Bool}{n:Nat}(h:n<L.length):dv (L.set n true) n:=by unfold dv;simp[h]
theorem kQ{L:List Bool}{n i:Nat}(h:dv (L.set n true) i):dv L i\/i=n:=by
 unfold dv at h⊢;rw[aaQ]at h;split at h
 .rename_i e;exact .inr e.symm
 .exact .inl h
structure PO(l:List Obj)(ops:List bG)(z:Int)(a b:Mk):Prop where
 st:Step l ops (fun _=>False) a b
 on:∀n,vO l z n->dv b.O n
 sd:∀RO RP,Cl l ops RO RP->Oh RO RP a->(∀n,vO l z n->RO n)->Oh RO RP b
structure PP(l:List Obj)(ops:List bG)(z:Int)(a b:Mk):Prop where
 st:Step l ops (fun _=>False) a b
 on:∀c,vP ops z c->dv b.P c
 sd:∀RO RP,Cl l ops RO RP->Oh RO RP a->(∀c,vP ops z c->RP c)->Oh RO RP b
theorem PO.none{l:List Obj}{ops:List bG}{z:Int}{a:Mk}(h:∀n,vO l z n->dv a.O n):PO l ops z a a:=⟨.refl a,h,fun _ _ _ h _=>h⟩
theorem PP.none{l:List Obj}{ops:List bG}{z:Int}{a:Mk}(h:∀n,vP ops z n->dv a.P n):PP l ops z a a:=⟨.refl a,h,fun _ _ _ h _=>h⟩
structure yU(l:List Obj)(ops:List bG)(n:Nat)(a b:Mk)(nE nQ:Nat)(es:List (ByteArray×Int))(qs:List bw):Prop where
 st:Step l ops (fun i=>i=n) a b
 on:dv b.O n
 e:∀j e,j<nE->es[j]? =some e->∀m,vO l e.2 m->dv b.O m
 q:∀j q,j<nQ->qs[j]? =some q->q.has=true->∀c,vP ops q.eT c->dv b.P c
 sd:∀RO RP,Cl l ops RO RP->Oh RO RP a->RO n->Oh RO RP b
theorem yU.start{l:List Obj}{ops:List bG}{n:Nat}{a:Mk}(hn:n<a.O.length)(es:List (ByteArray×Int))(qs:List bw):yU l ops n a ⟨a.O.set n true,a.P⟩ 0 0 es qs:=by
 refine⟨⟨aG,rfl,fun i h=>Ha h,fun i h=>h,fun i o h h2 h3=>?_,fun _ _ h h2=>absurd h h2⟩,rl hn,fun j e h=>absurd h (aaL j),fun j e h=>absurd h (aaL j),fun RO RP _ h hr=>⟨fun i hi=>?_,h.2⟩⟩
 .rcases kQ h with h|h
  .exact absurd h h2
  .exact absurd h h3
 .rcases kQ hi with hi|rfl
  .exact h.1 i hi
  .exact hr
theorem yU.Vb{l:List Obj}{ops:List bG}{n:Nat}{a b c:Mk}{j:Nat}{es:List (ByteArray×Int)}{qs:List bw}(h:yU l ops n a b j 0 es qs){e:ByteArray×Int}(he:es[j]? =some e)(hc:PO l ops e.2 b c){o:Obj}(ho:l[n]? =some o)(qn:o.ak=es.map fq):yU l ops n a c (j+1) 0 es qs:=by
 have hse:sE o e.2:=⟨e.1,by rw[qn];exact acA (aag he)⟩
 refine⟨h.st.trans hc.st,hc.st.mo n h.on,fun i x hi hx m hv=>?_,fun i x hi=>absurd hi (aaL i),fun RO RP gZ iV hr=>hc.sd RO RP gZ (h.sd RO RP gZ iV hr) fun m hv=>gZ.e n o hr ho e.2 m hse hv⟩
 rcases aaq i j with pM|pM
 .exact hc.st.mo m (h.e i x pM hx m hv)
 .have:i=j:=om;subst this;rw[he]at hx;cases hx;exact hc.on m hv
theorem yU.Vc{l:List Obj}{ops:List bG}{n:Nat}{a b c:Mk}{k j:Nat}{es:List (ByteArray×Int)}{qs:List bw}(h:yU l ops n a b k j es qs){q:bw}(hq:qs[j]? =some q)(hh:q.has=true)(hc:PP l ops q.eT b c){o:Obj}(ho:l[n]? =some o)(YC:o.aj=qs):yU l ops n a c k (j+1) es qs:=by
 have hsq:sQ o q.eT:=⟨q,by rw[YC];exact aag hq,hh,rfl⟩
 refine⟨h.st.trans hc.st,hc.st.mo n h.on,fun i x hi hx m hv=>hc.st.mo m (h.e i x hi hx m hv),fun i x hi hx Vd m hv=>?_,fun RO RP gZ iV hr=>hc.sd RO RP gZ (h.sd RO RP gZ iV hr) fun m hv=>gZ.q n o hr ho q.eT m hsq hv⟩
 rcases aaq i j with pM|pM
 .exact hc.st.mp m (h.q i x pM hx Vd m hv)
 .have:i=j:=om;subst this;rw[hq]at hx;cases hx;exact hc.on m hv
theorem yU.Ve{l:List Obj}{ops:List bG}{n:Nat}{a b:Mk}{k j:Nat}{es:List (ByteArray×Int)}{qs:List bw}(h:yU l ops n a b k j es qs){q:bw}(hq:qs[j]? =some q)(hh:q.has=false):yU l ops n a b k (j+1) es qs:=by
 refine⟨h.st,h.on,h.e,fun i x hi hx Vd m hv=>?_,h.sd⟩
 rcases aaq i j with pM|pM
 .exact h.q i x pM hx Vd m hv
 .have:i=j:=om;subst this;rw[hq]at hx;cases hx;rw[hh]at Vd;cases Vd
theorem yU.fS{l:List Obj}{ops:List bG}{n:Nat}{a b:Mk}{es:List (ByteArray×Int)}{qs:List bw}(h:yU l ops n a b es.length qs.length es qs){o:Obj}(ho:l[n]? =some o)(hk:o.ah≠0)(qn:o.ak=es.map fq)(YC:o.aj=qs):PO l ops (n:Int) a b:=by
 refine⟨⟨h.st.lo,h.st.lp,h.st.mo,h.st.mp,fun i x hi OG _ hx=>?_,h.st.cp⟩,fun m hv=>?_,fun RO RP gZ iV hr=>h.sd RO RP gZ iV (hr n ⟨rfl,o,ho,hk⟩)⟩
 .by_cases iV:i=n
  .subst iV;rw[ho]at hx;cases hx;refine⟨fun z m⟨nm,hm⟩hv=>?_,fun z c⟨q,hq,hh,hz⟩hv=>?_⟩
   .rw[qn]at hm;obtain⟨e,he,nM⟩:=aay.1 hm;have:e.2=z:=by simp[fq]at nM;exact nM.2
    subst this;obtain⟨j,hj⟩:=aam he;exact h.e j e (aac.1 hj).1 hj m hv
   .rw[YC]at hq;obtain⟨j,hj⟩:=aam hq;subst hz;exact h.q j q (aac.1 hj).1 hj hh c hv
  .exact h.st.co i x hi OG iV hx
 .have:m=n:=by have:=hv.1;omega
  subst this;exact h.on
theorem PP.of{l:List Obj}{ops:List bG}{a b:Mk}{c:Nat}(hc:c<a.P.length){o:bG}(ho:ops[c]? =some o)(h:PO l ops o.bv ⟨a.O,a.P.set c true⟩ b):PP l ops (c:Int) a b:=by
 have yp:Step l ops (fun _=>False) a b:=by
  refine⟨h.st.lo,by have:=h.st.lp;simpa using this,h.st.mo,fun i hi=>h.st.mp i (Ha hi),fun i x hi OG=>h.st.co i x hi OG,fun i x hi OG hx n hv=>?_⟩
  by_cases hic:i=c
  .subst hic;rw[ho]at hx;cases hx;exact h.on n hv
  .exact h.st.cp i x hi (fun hs=>(kQ hs).elim OG hic) hx n hv
 refine⟨yp,fun d hd=>?_,fun RO RP gZ iV hr=>?_⟩
 .have:d=c:=by have:=hd.1;omega
  subst this;exact h.st.mp d (rl hc)
 .have hrc:RP c:=hr c ⟨rfl,(aac.1 ho).1⟩;exact h.sd RO RP gZ ⟨iV.1,fun i hi=>(kQ hi).elim (iV.2 i) fun e=>e▸hrc⟩ fun n hv=>gZ.p c o hrc ho n hv
end Go.Proofs.YtojhmadmlnfpcaaGreatDoor
