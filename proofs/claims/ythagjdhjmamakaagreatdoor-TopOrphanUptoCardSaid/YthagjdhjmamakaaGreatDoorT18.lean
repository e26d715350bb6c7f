/- Part 18 of 41: what the law stands on. -/
import Derived.Test.YthagjdhjmamakaaGreatDoorT16
import Derived.Test.YthagjdhjmamakaaGreatDoorT17
set_option linter.unusedVariables false
set_option linter.unusedSimpArgs false
set_option linter.unnecessarySimpa false
set_option maxRecDepth 100000
set_option maxHeartbeats 64000000
namespace Go.Proofs.YthagjdhjmamakaaGreatDoor
open Go.AM Go.ChangeShapes Go.WideShapes Go.ChangeAt Go.RowKit
def c108:LF:= ⟨33,[.tmp 6],(.seq (.ai [qu 6 (.aD qe)]) (.seq (.ai [qm 8 0,qm 9 1,qm 10 2,qm 11 0,qu 12 (.len 1 11),qu 13 (.m6 4 8 (some 9) (some 10) (some 12))]) (.seq (.seq (.ai [qm 14 1,qm 15 2,qu 16 (.aE .eql 14 15)]) (.cond 16 (.seq (.ai [qm 17 0,qm 6 17]) .ret) .skip)) (.seq (.ai [qm 18 0,qu 19 (.len 1 18),qm 7 19]) (.seq (.bT [qm 20 0,qm 21 1,qu 22 (.m6 4 20 none (some 21) none),qm 23 0,qm 24 2,qu 25 (.m6 4 23 (some 24) none none),qu 26 (.mY 4 48 22 25),qm 0 26] [(.cons 0 none (.cons 1 none (.cons 2 none (.cons 3 none (.cons 4 none (.cons 5 none (.cons 6 (some []) (.cons 7 none .nil))))))))]) (.seq (.ai [qm 27 0,qm 28 0,qu 29 (.len 1 28),qm 30 7,qu 31 (.m6 4 27 (some 29) (some 30) none),qw (.Rx 4 [.aB,(.aa (.val (.bool false))),(qd 0),(qd 0)] 31)]) (.seq (.ai [qm 32 0,qm 6 32]) .ret)))))))⟩
def sV:List CC:=[.aB,.aa (.val (.bool false)),.aa (.val (.int .i64 0)),.aa (.val (.int .i64 0))]
theorem iX:∀ds:List (List Dt),eS (af ds)=true
 | []=>rfl
 |d::r=>by
  have h1:∀e:List Dt,oK (e.map CC.aa)=true:=by
   intro e
   induction e with
   |nil=>rfl
   |cons x e ih=>simpa[oK,CC.hC]using ih
  have:=iX r;simp only[af,aay,eS]at this⊢;rw[h1,this];rfl
theorem l108:bq Tryz.prog Tryz.f108=some c108:=by kernel_rfl
def fm(x:bp)(r:List bp):List (List CC):=af (r.map bp.enc)++ [sV]
theorem J1(x:bp)(r:List bp)(hl:r.length<=4194303):body Tryz.prog c108 [.rv (.one (.row 0 4 0 none)),an .i64 0,an .i64 1] [.row 4 (af ((x::r).map bp.enc))] (fun v m=>v= .rv (.one (.row 0 4 0 (some r.length)))/\m=[.row 4 (fm x r)]):=by
 have hlen:(af ((x::r).map bp.enc)).length=r.length+1:=by simp[af]
 have OQ:(af ((x::r).map bp.enc)).drop 1=af (r.map bp.enc):=rfl;generalize af ((x::r).map bp.enc)=D at hlen OQ;have hL:lenOf D.length 0 none=r.length+1:=by rw[gL,hlen];rfl
 have hE:ct D 1 (some (r.length+1))=af (r.map bp.enc):=by rw[kD];simp only;rw[<-hlen,aan,OQ]
 have FD:(af (r.map bp.enc)).length=r.length:=by simp[af]
 refine b8 ?_ ?_
 .show(Nat.ble 0 1&&(Nat.ble 1 (lenOf D.length 0 none)&&Nat.ble (lenOf D.length 0 none) (ct D 0 none).length))=true;rw[hL];simp[ct,hlen,aap]
 rw[hL];refine b8 ?_ ?_
 .show(Nat.ble 1 (lenOf D.length 0 none)&&Nat.ble (lenOf D.length 0 none) (D.length-0))=true;rw[hL,hlen];simp[aap]
 rw[hL];refine b8 ?_ ?_
 .show(Nat.beq 0 0&&(Nat.beq 4 4&&(Nat.beq 4 4&&(Nat.ble 1 D.length&&(Nat.ble (0+(ct D 1 (some (r.length+1))).length) D.length&&eS (ct D 1 (some (r.length+1))))))))=true;rw[hE,iX,FD,hlen];simp[aap]
 refine⟨?_,?_⟩
 .rw[hlen];omega
 refine⟨trivial,?_⟩;have yq:(cC D 0 (af (r.map bp.enc))).length=r.length+1:=by rw[uo (by rw[FD,hlen];omega),hlen]
 refine b8 ?_ ?_
 .simp only[kp,aak,hE,FD,gL,aaD,abf,yq];simp[aap]
 refine b8 ?_ ?_
 .simp only[kp,aak,hE,FD,gL,aaD,abf,yq,oL];simp[aap]
 refine b8 ?_ ?_
 .simp only[kp,aak,hE,FD,gL,aaD,abf,yq,oL];simp[aaO]
 have eE:cC (cC D 0 (af (r.map bp.enc))) r.length (fI 1 sV)=fm x r:=by
  have h1:cC D 0 (af (r.map bp.enc))=af (r.map bp.enc)++D.drop r.length:=by simp[cC,FD]
  rw[h1];simp only[cC,fk,fm];rw[List.take_append_of_le_length (by rw[FD];exact QN _),aaV (by rw[FD];exact QN _)]
  congr 1;have:(af (r.map bp.enc)++D.drop r.length).length=r.length+1:=by simp[FD,hlen]
  rw[List.drop_of_length_le (by rw[this];simp)]
  rfl
 refine⟨?_,?_⟩
 .show CV.rv (.one (.row 0 4 0 (some (0+(ct D (gB 0 1) (some (gB 0 (r.length+1)))).length))))=_;simp only[kp,aak,hE,FD]
 .rw[<-eE];show [Bk.row 4 (cC (cC D 0 (ct D (gB 0 1) (some (gB 0 (r.length+1))))) _ (fI (_-_) sV))]=_;simp only[kp,aak,hE,FD,gL,aaD,abf,yq,oL,Nat.add_sub_cancel_left]
theorem Qf(x:bp)(r:List bp)(hl:r.length<=4194303){m:Mem}{K:CV->Mem->Prop}(id:Nat)(hb:cR m id=some (.row 4 (af ((x::r).map bp.enc))))(h:K (.rv (.one (.row id 4 0 (some r.length)))) (a7 m id (.row 4 (fm x r)))):
  ar Tryz.prog 108 [.rv (.one (.row id 4 0 none)),an .i64 0,an .i64 1] m K:=by
 have hid:id<m.length:=by rw[aT]at hb;exact(Hy.1 hb).1
 refine bv [id] m.length rfl rfl rfl (by simp[eX,hid]) (args0:=[.rv (.one (.row 0 4 0 none)),an .i64 0,an .i64 1]) rfl (fun i b' hi=>?_) (aW Tryz.func108 l108 (J1 x r hl)) (fun r1 m1 hr=>?_)
 .cases i with
  |zero=>
   simp at hi;subst hi;refine .inr ⟨fun h=>h,_,?_,.bR rfl⟩
   rw[aT]at hb;exact hb
  |succ i=>simp at hi
 .obtain⟨rfl,rfl⟩:=hr;refine⟨QN _,?_⟩;have Xb:(Bk.row 4 (fm x r)).aP (sg [id] m.length)= .row 4 (fm x r):=by simp only[Bk.aP,fm,aax,dd];rfl
  show K (.rv (.one (.row id 4 0 (some r.length)))) (cV m [id] [(Bk.row 4 (fm x r)).aP (sg [id] m.length)]);rw[Xb];simp only[cV,cg,aa6];exact h
def c68:LF:= ⟨78,[.tmp 4,.cell true 4 5,.tmp 6],(.seq (.ai [qu 4 (.aD qe),qu 5 (.alloc [.aB,(.aa (.val (.bool false))),(qd 0),(qd 0)]),qu 6 (.aD (qi 0))]) (.seq (.seq (.ai [qm 10 1,qu 11 (.aE .lss 10 (qi 0)),qm 12 11,qg 13 (.aD 1) 12 false,qg 14 (.aD 0) 12 false,qg 15 (.len 1 14) 12 false,qg 16 (.aE .geq 13 15) 12 false,qu 17 (.pick 12 (qb true) 16),qm 18 17,qg 19 (.aD 0) 18 false,qg 20 (.aD 1) 18 false,qg 21 (.b7 9 19 20) 18 false,qg 22 (.bQ 0 21) 18 false,qg 23 (.load false 1 22) 18 false,qg 24 (.aE .neq 23 (qi 4)) 18 false,qu 25 (.pick 18 (qb true) 24)]) (.cond 25 (.seq (.ai [qu 26 (.build [.aB,(.aa (.val (.bool false))),(qd 0),(qd 0)] []),qu 4 (.aD qe),qw (.store 4 5 26),qu 6 (.aD (qi 8))]) .ret) .skip)) (.seq (.seq (.ai [qm 27 0,qm 28 1,qu 29 (.b7 9 27 28),qf 30 5 29,ql 31 30,qu 32 (.len 1 31),qu 33 (.aE .eql 32 (qi 0))]) (.cond 33 (.seq (.seq (.ai [qm 34 0,qm 35 1,qu 36 (.b7 9 34 35),qf 37 4 36,ql 38 37,qm 7 38]) (.seq (.ai [qm 39 7,qu 40 (.aE .lss 39 (qi 0)),qm 41 40,qg 42 (.aD 7) 41 false,qg 43 (.aD 0) 41 false,qg 44 (.len 1 43) 41 false,qg 45 (.aE .geq 42 44) 41 false,qu 46 (.pick 41 (qb true) 45),qm 47 46,qg 48 (.aD 0) 47 false,qg 49 (.aD 7) 47 false,qg 50 (.b7 9 48 49) 47 false,qg 51 (.bQ 0 50) 47 false,qg 52 (.load false 1 51) 47 false,qg 53 (.aE .neq 52 (qi 4)) 47 false,qu 54 (.pick 47 (qb true) 53)]) (.cond 54 (.seq (.ai [qu 55 (.build [.aB,(.aa (.val (.bool false))),(qd 0),(qd 0)] []),qu 4 (.aD qe),qw (.store 4 5 55),qu 6 (.aD (qi 17))]) .ret) .skip))) (.seq (.ai [qu 56 (.build [.aB,(.aa (.val (.bool false))),(qd 0),(qd 0)] []),qu 4 (.aD qe),qw (.store 4 5 56),qu 6 (.aD (qi 16))]) .ret)) .skip)) (.seq (.ai [qm 57 0,qu 58 (qc 91 [57]),qm 8 58]) (.seq (.ai [qm 59 8,qm 60 1,qu 61 (.b7 9 59 60),qf 62 5 61,ql 63 62,qu 64 (.b7 4 63 (qi 0)),qL 65 4 64,qu 9 (.alloc [.aB,(.aa (.val (.bool false))),(qd 0),(qd 0)]),qw (.store 4 9 65)]) (.seq (.ai [qm 66 8,qm 67 1,qm 68 8,qm 69 1,qu 70 (.b7 9 68 69),qf 71 5 70,ql 72 71,qu 73 (qc 108 [72,(qi 0),(qi 1)]),qu 74 (.b7 9 66 67),qf 75 5 74,qw (.store 1 75 73)]) (.seq (.bT [qm 76 8,qL 77 4 9,qm 4 76,qw (.store 4 5 77),qu 6 (.aD (qi 0))] [(.cons 0 none (.cons 1 none (.cons 2 none (.cons 3 (some []) (.cons 4 none .nil)))))]) .ret)))))))⟩
def lN:bp:=⟨[],false,0,0⟩
def bp.rv(m:bp):RV:= .agg (m.enc.map .aa)
def ff(l:List Obj)(e:Int):List Obj×bp×Int:=
 if e<0\/e>=l.length then([],lN,8)else match l[e.toNat]? with
 |none=>([],lN,8)
 |some o=>if o.ah≠4 then([],lN,8)else match o.ak with
  | []=>if o.aG<0\/o.aG>=l.length then([],lN,17)else match l[o.aG.toNat]? with
   |none=>([],lN,17)
   |some q=>if q.ah≠4 then([],lN,17)else([],lN,16)
  |x::r=>(l.set e.toNat {o with ak:=r},x,0)
def uF(x:List Obj×bp×Int):CV:= .bG [lM x.1,x.2.1.rv,cD x.2.2]
theorem Zr{σ:Nat->Nat}{m:Mem}{Z:Nat->Prop}{a b c d:RV}{x:Int}(h:vZ σ m Z a b)(hc:vZ σ m Z c d):pS σ m Z (.bG [a,c,cD x]) (.bG [b,d,cD x]):=by
 refine .bG rfl fun i r r' h1 h2=>?_
 match i,h1,h2 with
 |0,h1,h2=>cases h1;cases h2;exact h
 |1,h1,h2=>cases h1;cases h2;exact hc
 |2,h1,h2=>cases h1;cases h2;exact .one (.aP (.aa _))
theorem vwZ{σ:Nat->Nat}{m:Mem}{Z:Nat->Prop}:vZ σ m Z (.agg sV) lN.rv:=by
 refine .agg rfl fun i c c' h1 h2=>?_
 match i,h1,h2 with
 |0,h1,h2=>cases h1;cases h2;exact .eu (.aB 1)
 |1,h1,h2=>cases h1;cases h2;exact .aP (.aa _)
 |2,h1,h2=>cases h1;cases h2;exact .aP (.aa _)
 |3,h1,h2=>cases h1;cases h2;exact .aP (.aa _)
 |n+4,h1,h2=>simp[sV]at h1
theorem Tv{σ:Nat->Nat}{m:Mem}{Z:Nat->Prop}(x:bp):vZ σ m Z (.agg (x.enc.map .aa)) x.rv:=by
 refine .agg rfl fun i c c' h1 h2=>?_
 rw[h1]at h2;cases h2;rw[O6]at h1;cases hd:x.enc[i]? with
 |none=>rw[hd]at h1;cases h1
 |some d=>
  rw[hd]at h1;cases h1;exact .aP (.aa d)
theorem Qg{m:Mem}{Z:Nat->Prop}{p:Option Nat}{id:Nat}{x:bp}{r:List bp}(hz:Z id)(hb:m[id]? =some (.row 4 (fm x r))):dm m Z p (.row id 4 0 (some r.length)) (.sl 4 (r.map bp.enc)):=by
 have h:=dm.row (m:=m) (Z:=Z) (p:=p) id 4 0 (some r.length) (fm x r) (r.map bp.enc++ [lN.enc]) hz hb (by simp[fm,af]) (fun i cs es h1 h2=>?_) (fun i cs es j c d h1 h2 h3 h4=>?_)
 .have:ct (r.map bp.enc++ [lN.enc]) 0 (some r.length)=r.map bp.enc:=by rw[kD];simp
  rw[this]at h;exact h
 .rcases XN i r.length with hi|hi
  .rw[fm,VO (by simpa[af]using hi),af,O6]at h1
   rw[VO (by simpa using hi)]at h2
   rw[h2]at h1;cases h1;simp
  .rw[fm,UX (by simpa[af]using hi)]at h1
   rw[UX (by simpa using hi)]at h2
   have e1:(af (r.map bp.enc)).length=r.length:=by simp[af]
   have e2:(r.map bp.enc).length=r.length:=aK;rw[e1]at h1;rw[e2]at h2;cases hn:i-r.length with
   |zero=>rw[hn]at h1 h2;cases h1;cases h2;rfl
   |succ n=>rw[hn]at h1;simp at h1
 .rcases XN i r.length with hi|hi
  .rw[fm,VO (by simpa[af]using hi),af,O6]at h1
   rw[VO (by simpa using hi)]at h2
   rw[h2]at h1;cases h1;rw[O6,h4]at h3;cases h3;exact .aa _
  .rw[fm,UX (by simpa[af]using hi)]at h1
   rw[UX (by simpa using hi)]at h2
   have e1:(af (r.map bp.enc)).length=r.length:=by simp[af]
   have e2:(r.map bp.enc).length=r.length:=aK;rw[e1]at h1;rw[e2]at h2;cases hn:i-r.length with
   |zero=>
    rw[hn]at h1 h2;cases h1;cases h2
    match j,h3,h4 with
    |0,h3,h4=>cases h3;cases h4;exact .aB 1
    |1,h3,h4=>cases h3;cases h4;exact .aa _
    |2,h3,h4=>cases h3;cases h4;exact .aa _
    |3,h3,h4=>cases h3;cases h4;exact .aa _
    |n+4,h3,h4=>simp[sV]at h3
   |succ n=>rw[hn]at h1;simp at h1
theorem l68:bq Tryz.prog Tryz.f68=some c68:=by kernel_rfl
theorem rn(l:List Obj)(hf:kg l)(e:Int):body Tryz.prog c68 [cq l,an .i64 e] [] (fun r m=>∃r' m',View 0 ⟨[r],m⟩ ⟨[r'],m'⟩/\r'=uF (ff l e)/\m'=[]):=by
 have IJ:(((l.map Obj.enc).length:Nat):Int)=(l.length:Int):=aK;have bad:∀(x:Int),ff l e=([],lN,x)->∃r' m',View 0 ⟨[CV.bG [.one .aB,.agg sV,cD x]],[.var sV]⟩ ⟨[r'],m'⟩/\r'=uF (ff l e)/\m'=[]:=by intro x hx;refine⟨_,_,View.o 1 [] [] (.put (Zr (b:=lM []) (.one (.eu (.aB 9))) vwZ) .nil) (.nil _),?_,rfl⟩;rw[hx];rfl
 refine aJ (fun h=>?_) (fun h1=>?_)
 .exact bad 8 (by rw[ff,if_pos (.inl h)])
 refine aJ (fun h=>?_) (fun h2=>?_)
 .exact bad 8 (by rw[ff,if_pos (.inr (by rw[<-IJ];exact h))])
 have h2:¬e>=(l.length:Int):=by rw[<-IJ];exact h2
 obtain⟨k,rfl⟩:∃k:Nat,e=k:=⟨e.toNat,om⟩;have hk:k<l.length:=om;have hi:=tq hk;have n9:ff l (k:Int)=if l[k].ah≠4 then(([],lN,8):List Obj×bp×Int)else match l[k].ak with
   | []=>if l[k].aG<0\/l[k].aG>=l.length then([],lN,17)else match l[l[k].aG.toNat]? with
    |none=>([],lN,17)
    |some q=>if q.ah≠4 then([],lN,17)else([],lN,16)
   |x::r=>(l.set k {l[k]with ak:=r},x,0):=by
  rw[ff,if_neg om,XO,hi]
 have hg:dg (l.map Obj.enc) (k:Nat)=some (l[k].enc):=by rw[bF,O6,hi];rfl
 have Mo:=hf.2 _ (XP hk);generalize l[k]=o at n9 hg hi Mo;obtain⟨ah,data,aj,target,aG,ak,aM,am,up⟩:=o;have hg:dg (l.map Obj.enc) (k:Nat)=some [.val (.int .i64 ah),.sl 1 data,.sl 2 aj,.val (.string target),.val (.int .i64 aG),.sl 4 (ak.map bp.enc),.val (.int .i64 aM),.val (.int .i64 am),.val (.int .i64 up)]:=hg;refine ag hg ?_;refine bu (fun h=>?_) (fun h3=>?_)
 .exact bad 8 (by rw[n9,if_pos h])
 have h3:ah=4:=h3;rw[if_neg (by simpa using h3)]at n9
 simp only at n9;refine ag hg ?_;cases ak with
 |nil=>
  simp only at n9;refine ag hg ?_;refine aJ (fun h=>?_) (fun h4=>?_)
  .exact bad 17 (by rw[n9,if_pos (.inl h)])
  refine aJ (fun h=>?_) (fun h5=>?_)
  .exact bad 17 (by rw[n9,if_pos (.inr (by rw[<-IJ];exact h))])
  have h5:¬aG>=(l.length:Int):=by rw[<-IJ];exact h5
  have h4:¬aG<0:=h4;obtain⟨p,rfl⟩:∃p:Nat,aG=p:=⟨aG.toNat,om⟩;have hp:p<l.length:=om;have OP:=tq hp;rw[if_neg om,XO,OP]at n9;simp only at n9;have zP:dg (l.map Obj.enc) (p:Nat)=some (l[p].enc):=by rw[bF,O6,OP];rfl
  generalize l[p]=q at n9 zP;have zP:dg (l.map Obj.enc) (p:Nat)=some [.val (.int .i64 q.ah),.sl 1 q.data,.sl 2 q.aj,.val (.string q.target),.val (.int .i64 q.aG),.sl 4 (q.ak.map bp.enc),.val (.int .i64 q.aM),.val (.int .i64 q.am),.val (.int .i64 q.up)]:=zP;refine ag zP ?_;refine bu (fun h=>?_) (fun h6=>?_)
  .exact bad 17 (by rw[n9,if_pos h])
  .exact bad 16 (by rw[n9,if_neg (by simpa using h6)])
 |cons x r=>
  simp only at n9;have J2:(x::r).length<=4194304:=Mo.2.2.1;refine uE l hf k ?_;rw[JZ hi];have rm:dt (k:Int) (lenOf (dW k 2 0 l).length 0 none)=some k:=bP (by simp[lenOf,lK];omega)
  have mR:=AN (Q:=2) hi;refine ag rm ?_;refine ag mR ?_;refine ag rm ?_;refine ag mR ?_;refine Qf x r (by simp at J2;omega) 2 rfl ?_
  refine ag rm ?_;refine ag mR ?_;refine⟨trivial,?_⟩;refine⟨uF (ff l k),[],View.o 4 [] [1,2] ?_ (.nil _),rfl,rfl⟩;rw[n9];refine .put (Zr (.one (.eu ?_)) (Tv x)) .nil;exact FC (p:=k) (Q:=2) (l:=l) (q:=⟨ah,data,aj,target,aG,r,aM,am,up⟩) (c:= .row 2 4 0 (some r.length)) rfl (by rw[<-aT];rfl) (Qg (x:=x) rfl (by rw[<-aT];rfl))
theorem M0(l:List Obj)(hf:kg l)(e:Int){m:Mem}{K:CV->Mem->Prop}(h:K (uF (ff l e)) m):ar Tryz.prog 68 [cq l,an .i64 e] m K:=by
 refine aY (K0:=fun r m=>r=uF (ff l e)/\m=[]) (bK (aW Tryz.func68 l68 (rn l hf e)) fun r m1⟨r',m',hv,hp⟩=>⟨r',m',hv,hp⟩) (by simp[cq,an,CV.c7,CC.c7,RV.c7]) fun r m1 hr=>?_
 obtain⟨rfl,rfl⟩:=hr;exact⟨_,cw.self rfl,h⟩
def dh(l:List Int):List (List Dt):=l.map fun b=>[.val (.int .u8 b)]
theorem AO{m:Mem}{id:Nat}{b:Bk}:cV m [id] [b]=a7 m id b:=by simp only[cV,cg,aa6]
theorem gw:∀b:List Int,ou ((dh b).map fun ds=>ds.map .aa)=some b
 | []=>rfl
 |x::r=>by have:=gw r;simp only[dh,aay,abN]at this⊢;simp only[ou,this]
def fD(e:ByteArray×Int):List Dt:=[.val (.string e.1),.val (.int .i64 e.2)]
def bp.OR(q:bp):Prop:=∃b:List Int,q.data=dh b
def Obj.OR(o:Obj):Prop:=(∃b:List Int,o.data=dh b)/\(∃es:List (ByteArray×Int),o.aj=es.map fD)/\∀q,q∈o.ak->q.OR
theorem M1{l:List Obj}{k:Nat}(h:k<l.length):dg (l.map Obj.enc) (k:Nat)=some [.val (.int .i64 l[k].ah),.sl 1 l[k].data,.sl 2 l[k].aj,.val (.string l[k].target),.val (.int .i64 l[k].aG),.sl 4 (l[k].ak.map bp.enc),.val (.int .i64 l[k].aM),.val (.int .i64 l[k].am),.val (.int .i64 l[k].up)]:=by rw[bF,O6,tq h];rfl
inductive oB(σ:Nat->Nat)(m:Mem)(Z:Nat->Prop):List CC->List CC->Prop
 |nil:oB σ m Z [] []
 |cons {c c':CC} {r r':List CC} (h:pj σ m Z none c c') (hr:oB σ m Z r r'):oB σ m Z (c::r) (c'::r')
theorem oB.len{σ:Nat->Nat}{m:Mem}{Z:Nat->Prop}{cs ek:List CC}(h:oB σ m Z cs ek):cs.length=ek.length:=by
 induction h<;>simp[*]
theorem oB.get{σ:Nat->Nat}{m:Mem}{Z:Nat->Prop}{cs ek:List CC}(h:oB σ m Z cs ek):∀(i:Nat)c c',cs[i]? =some c->ek[i]? =some c'->pj σ m Z none c c':=by
 induction h with
 |nil=>intro i c c' h;simp at h
 |cons h hr ih=>
  intro i c c' h1 h2;cases i with
  |zero=>simp at h1 h2;subst h1 h2;exact h
  |succ i=>exact ih i c c' (by simpa using h1) (by simpa using h2)
theorem oB.agg{σ:Nat->Nat}{m:Mem}{Z:Nat->Prop}{cs ek:List CC}(h:oB σ m Z cs ek):pS σ m Z (.rv (.agg cs)) (.rv (.agg ek)):= .rv (.agg h.len h.get)
structure Obj.sm(o:Obj):Prop where
 t:o.OR
 d:o.data.length<=64
 e:o.aj.length<=8
 q:o.ak.length<=8
 qd:∀q,q∈o.ak->q.data.length<=64
theorem Obj.sm.mU{o:Obj}(h:o.sm):o.mU:=⟨by have:=h.d;omega,by have:=h.e;omega,by have:=h.q;omega,fun q hq=>by have:=h.qd q hq;omega⟩
theorem M2{es:List (ByteArray×Int)}{k:Nat}(h:k<es.length):dg (es.map fD) (k:Nat)=some [.val (.string es[k].1),.val (.int .i64 es[k].2)]:=by rw[bF,O6,tq h];rfl
structure fq where
 has:Bool
 eJ:Int
 cn:Int
def fq.enc(s:fq):List Dt:=[.val (.bool s.has),.val (.int .i64 s.eJ),.val (.int .i64 s.cn)]
def wu(l:List fq):Dt:= .sl 3 (l.map fq.enc)
def J3(l:List fq):RV:= .one (.aa (wu l))
def ma(l:List fq):CV:= .rv (.one (.aa (wu l)))
theorem bA{α:Type}(f:α->List Dt)(l:List α){k:Nat}(h:k<l.length):cR (af (l.map f)) k=some ((f l[k]).map .aa):=by rw[aT,af,O6,O6,tq h];rfl
theorem mc{α:Type}(f:α->List Dt)(l:List α)(k:Nat)(x:α):a7 (af (l.map f)) k ((f x).map .aa)=af ((l.set k x).map f):=by rw[bg,af,af,aaG,aaG]
theorem nr:∀a:List UInt8,Op.bytesLess a a=false
 | []=>rfl
 |x::r=>by simp[Op.bytesLess,nr r]
theorem pZ:∀{a b c:List UInt8},Op.bytesLess a b=true->Op.bytesLess b c=true->Op.bytesLess a c=true
 |a,[],_,h,_=>by cases a<;>simp[Op.bytesLess]at h
 |_,_::_,[],_,h=>by simp[Op.bytesLess]at h
 | [],_::_,_::_,_,_=>rfl
 |x::a,y::b,z::c,h1,h2=>by
  simp only[Op.bytesLess,aaT,T6,decide_eq_true_eq,beq_iff_eq]at h1 h2⊢;rcases h1 with h1|⟨rfl,h1⟩
  .rcases h2 with h2|⟨rfl,h2⟩
   .exact .inl (UInt8.lt_trans h1 h2)
   .exact .inl h1
  .rcases h2 with h2|⟨rfl,h2⟩
   .exact .inl h2
   .exact .inr ⟨rfl,pZ h1 h2⟩
theorem J4:∀a b:List UInt8,Op.bytesLess a b=true\/a=b\/Op.bytesLess b a=true
 | [],[]=>.inr (.inl rfl)
 | [],_::_=>.inl rfl
 |_::_,[]=>.inr (.inr rfl)
 |x::a,y::b=>by
  simp only[Op.bytesLess,aaT,T6,decide_eq_true_eq,beq_iff_eq,List.cons.injEq];by_cases h:x<y
  .exact .inl (.inl h)
  .by_cases h2:y<x
   .exact .inr (.inr (.inl h2))
   .have e:x=y:=by have h3:¬x.toNat<y.toNat:=h;have h4:¬y.toNat<x.toNat:=h2;exact UInt8.toNat_inj.1 om
    subst e;rcases J4 a b with h5|h5|h5
    .exact .inl (.inr ⟨rfl,h5⟩)
    .exact .inr (.inl ⟨rfl,h5⟩)
    .exact .inr (.inr (.inr ⟨rfl,h5⟩))
abbrev NE:=ByteArray×Int
def yB(a b:ByteArray):Prop:=Op.bytesLess a.toList b.toList=true
def Dg(es:List NE):Prop:=es.Pairwise fun a b=>yB a.1 b.1
def Dh(a b:ByteArray):Bool:= !(Op.bytesLess a.toList b.toList||a.toList==b.toList)
theorem Tw{a b:ByteArray}(h:Dh a b=true):yB b a:=by
 unfold Dh at h;simp only[aaP,Bool.or_eq_false_iff,beq_eq_false_iff_ne]at h;rcases J4 a.toList b.toList with h1|h1|h1
 .rw[h.1]at h1;cases h1
 .exact absurd h1 h.2
 .exact h1
theorem Qh{a b:ByteArray}(h:Dh a b=false)(eL:a.toList≠b.toList):yB a b:=by unfold Dh at h;simp only[Bool.not_eq_false',aaT,beq_iff_eq]at h;exact h.elim id fun h=>absurd h eL
structure J5(es:List NE)(x:NE)(k:Nat)(d:Bool)(ec:List NE):Prop where
 f:d=false->ec=es.take k/\∀(j:Nat)e,j<k->es[j]? =some e->Dh e.1 x.1=false
 t:d=true->∃i,i<k/\ec=es.take i++x::(es.take k).drop i/\(∀(j:Nat)e,j<i->es[j]? =some e->Dh e.1 x.1=false)/\∃e,es[i]? =some e/\Dh e.1 x.1=true
theorem Hg{es:List NE}{k:Nat}(h:k<es.length):es.take (k+1)=es.take k++ [es[k]]:=by rw[aaL,tq h];rfl
theorem J5.zD{es:List NE}{x:NE}{k:Nat}{ec:List NE}(h:J5 es x k false ec)(hk:k<es.length)(hg:Dh es[k].1 x.1=true):J5 es x (k+1) true (ec++ [x,es[k]]):=by
 obtain⟨h1,h2⟩:=h.f rfl;refine⟨fun h=>(by cases h),fun _=>⟨k,aaZ k,?_,h2,es[k],tq hk,hg⟩⟩
 rw[Hg hk,h1,List.drop_left' (by simp;omega)]
def gZ(x:NE):List NE->List NE
 | []=>[x]
 |e::r=>if Dh e.1 x.1=true then x::e::r else e::gZ x r
theorem AP{x:NE}:∀{a b:List NE},(∀e,e∈a->Dh e.1 x.1=false)->gZ x (a++b)=a++gZ x b
 | [],_,_=>rfl
 |e::a,b,h=>by
  show gZ x (e::(a++b))=_;rw[gZ,if_neg (by rw[h e aK];simp),AP fun y hy=>h y (by simp[hy])]
  rfl
theorem M3{x e:NE}{r:List NE}(h:Dh e.1 x.1=true):gZ x (e::r)=x::e::r:=by rw[gZ,if_pos h]
theorem p0{x:NE}:∀{es:List NE}{e:NE},e∈gZ x es->e∈es\/e=x
 | [],e,h=>by simp[gZ]at h;exact .inr h
 |y::r,e,h=>by
  rw[gZ]at h;split at h
  .rcases aad.1 h with h|h
   .exact .inr h
   .exact .inl h
  .rcases aad.1 h with h|h
   .exact .inl (by simp[h])
   .rcases p0 h with h|h
    .exact .inl (by simp[h])
    .exact .inr h
theorem AQ{x:NE}:∀es:List NE,(gZ x es).length=es.length+1
 | []=>rfl
 |y::r=>by
  rw[gZ];split
  .rfl
  .simp[AQ r]
theorem J6{es:List NE}{x:NE}(hs:Dg es)(eL:∀e,e∈es->e.1.toList≠x.1.toList):Dg (gZ x es):=by
 induction es with
 |nil=>exact abu.2 ⟨aK,List.Pairwise.nil⟩
 |cons e r ih=>
  obtain⟨h1,h2⟩:=abu.1 hs;rw[gZ];split
  .rename_i hg;have hx:=Tw hg;refine abu.2 ⟨fun y hy=>?_,hs⟩
   rcases aad.1 hy with rfl|hy
   .exact hx
   .exact pZ hx (h1 y hy)
  .rename_i hg;rw[abB]at hg;refine abu.2 ⟨fun y hy=>?_,ih h2 fun y hy=>eL y (by simp[hy])⟩
   rcases p0 hy with hy|rfl
   .exact h1 y hy
   .exact Qh hg (eL e aK)
def yC(es:List NE)(name:ByteArray)(n:Int):Prop:=(∃e,e∈es/\e.1.toList=name.toList/\n=e.2)\/(n= -1/\∀e,e∈es->e.1.toList≠name.toList)
def fg(es:List NE)(name:ByteArray):Int:=match es.find? (fun e=>decide (e.1.toList=name.toList))with
 |some e=>e.2
 |none=>-1
theorem uG{es:List NE}(hs:Dg es){a b:NE}(ha:a∈es)(hb:b∈es)(h:a.1.toList=b.1.toList):a=b:=by
 obtain⟨i,hi⟩:=Xz ha;obtain⟨j,hj⟩:=Xz hb;obtain⟨Oo,d8⟩:=Hy.1 hi;obtain⟨zH,jy⟩:=Hy.1 hj;have hp:=aaY.1 hs;rcases abQ i j with h3|h3|h3
 .have:=hp i j Oo zH h3;rw[d8,jy,yB,h,nr]at this;cases this
 .subst h3;rw[hi]at hj;cases hj;rfl
 .have:=hp j i zH Oo h3;rw[d8,jy,yB,h,nr]at this;cases this
theorem iK(es:List NE)(name:ByteArray):yC es name (fg es name):=by
 unfold fg;cases h:es.find? (fun e=>decide (e.1.toList=name.toList))with
 |some e=>
  have h1:=List.find?_some h;exact .inl ⟨e,List.mem_of_find?_eq_some h,by simpa using h1,rfl⟩
 |none=>exact .inr ⟨rfl,fun e he=>by simpa using ace.1 h e he⟩
theorem sW{es:List NE}(hs:Dg es){name:ByteArray}{n k:Int}(h:yC es name n)(h2:yC es name k):n=k:=by
 rcases h with⟨e,he,h3,rfl⟩|⟨rfl,h3⟩
 .rcases h2 with⟨e',sh,h4,rfl⟩|⟨rfl,h4⟩
  .rw[uG hs he sh (h3.trans h4.symm)]
  .exact absurd h3 (h4 e he)
 .rcases h2 with⟨e',sh,h4,rfl⟩|⟨rfl,h4⟩
  .exact absurd h4 (h3 e' sh)
  .rfl
def noD:Dt:= .val (.slice none 0 0)
structure Ob where
 ah:Int
 data:List (List Dt)
 aj:List (List Dt)
 target:ByteArray
 aG:Int
 ak:Dt
 aM:Int
 am:Int
 up:Int
def Ob.enc(o:Ob):List Dt:=[.val (.int .i64 o.ah),.sl 1 o.data,.sl 2 o.aj,.val (.string o.target),.val (.int .i64 o.aG),o.ak,.val (.int .i64 o.aM),.val (.int .i64 o.am),.val (.int .i64 o.up)]
def M4(l:List Ob):Dt:= .sl 9 (l.map Ob.enc)
def yD(l:List Ob):CV:= .rv (.one (.aa (M4 l)))
def ns(l:List Ob)(k ah:Int):Bool:=decide (k>=0)&&(decide (k<l.length)&&match l[k.toNat]? with|none=>false|some o=>o.ah !=0&&(ah==0||o.ah==ah))
theorem lO{l:List Ob}{k:Nat}(h:k<l.length):dg (l.map Ob.enc) (k:Nat)=some [.val (.int .i64 l[k].ah),.sl 1 l[k].data,.sl 2 l[k].aj,.val (.string l[k].target),.val (.int .i64 l[k].aG),l[k].ak,.val (.int .i64 l[k].aM),.val (.int .i64 l[k].am),.val (.int .i64 l[k].up)]:=by rw[bF,O6,tq h];rfl
theorem J7{l:List Ob}{k:Int}(h:ns l k 0=true):∃n:Nat,k=n/\n<l.length:=by
 unfold ns at h;by_cases h0:k>=0
 .obtain⟨n,rfl⟩:∃n:Nat,k=n:=⟨k.toNat,om⟩;by_cases hn:n<l.length
  .exact⟨n,rfl,hn⟩
  .simp[hn]at h
 .simp[h0]at h
structure Tx(n:Nat)(ah:Int)(aj:List (List Dt)):Prop where
 ex:∃es:List NE,aj=es.map fD/\Dg es/\(∀e,e∈es->0<=e.2/\e.2<(n:Int))/\(ah≠2->es=[])
def mH:List Dt->NE
 | [.val (.string s),.val (.int .i64 n)]=>(s,n)
 |_=>(⟨#[]⟩,0)
theorem me:∀es:List NE,(es.map fD).map mH=es
 | []=>rfl
 |e::r=>by show(mH (fD e))::((r.map fD).map mH)=_;rw[me r];rfl
def Ty:LC->LC
 | .seq a _=>a
 |x=>x
def bI:LC->LC
 | .seq _ b=>b
 |x=>x
def oV:LC->LC
 | .cL a=>a
 |x=>x
structure bC where
 bt:Int
 cU:Int
def bC.enc(o:bC):List Dt:=[.val (.int .i64 o.bt),.val (.int .i64 o.cU)]
structure bi where
 a8:Bool
 fenced:Bool
 code:Int
 bd:List fq
def bi.enc(p:bi):List Dt:=[.val (.bool p.a8),.val (.bool p.fenced),.val (.int .i64 p.code),wu p.bd]
def eF(l:List bC):Dt:= .sl 2 (l.map bC.enc)
def fM(l:List bi):Dt:= .sl 4 (l.map bi.enc)
def dX(l:List Obj)(op:List bC)(ps:List bi):CV:= .rv (.agg [.aa (da l),.aa (eF op),.aa (fM ps)])
inductive eG(σ:Nat->Nat)(m:Mem)(Z:Nat->Prop)(p:Option Nat):List CC->List CC->Prop
 |nil:eG σ m Z p [] []
 |cons {c c':CC} {r r':List CC} (h:pj σ m Z p c c') (hr:eG σ m Z p r r'):eG σ m Z p (c::r) (c'::r')
theorem eG.get{σ:Nat->Nat}{m:Mem}{Z:Nat->Prop}{p:Option Nat}{cs ek:List CC}(h:eG σ m Z p cs ek):∀(i:Nat)c',ek[i]? =some c'->∃c,cs[i]? =some c/\pj σ m Z p c c':=by
 induction h with
 |nil=>intro i c' h;simp at h
 |cons h hr ih=>
  intro i c' h2;cases i with
  |zero=>simp at h2;subst h2;exact⟨_,rfl,h⟩
  |succ i=>simpa using ih i c' (by simpa using h2)
theorem eG.var{σ:Nat->Nat}{m:Mem}{Z:Nat->Prop}{id:Nat}{cs ek:List CC}(h:eG σ m Z (some id) cs ek):lU σ m Z id (.var cs) (.var ek):= .var h.get
def z3:List CC:=[.aB,.aB,.aB]
theorem bb(ds:List (List Dt)):(af ds).length=ds.length:=by simp[af]
theorem dd(σ:Nat->Nat)(ds:List (List Dt)):(af ds).map (fun cs=>cs.map (CC.aP σ))=af ds:=by simp[af,abR,CC.aP]
theorem Tz{σ:Nat->Nat}{m:Mem}{Z:Nat->Prop}{id:Nat}(l:List bi)(p:bi){c:CC}{X:List (List CC)}(hc:pj σ m Z (some id) c (.aa (wu p.bd)))(hX:X=af (l.map bi.enc)++ [[.aa (.val (.bool p.a8)),.aa (.val (.bool p.fenced)),.aa (.val (.int .i64 p.code)),c]]):lU σ m Z id (.row 4 X) (.row 4 (af ((l++ [p]).map bi.enc))):=by
 subst hX;have e:af ((l++ [p]).map bi.enc)=af (l.map bi.enc)++ [p.enc.map .aa]:=by simp[af]
 rw[e];refine .Dd (dd σ _) rfl fun j c1 c2 h1 h2=>?_
 match j,h1,h2 with
 |0,h1,h2=>cases h1;cases h2;exact .aP (.aa _)
 |1,h1,h2=>cases h1;cases h2;exact .aP (.aa _)
 |2,h1,h2=>cases h1;cases h2;exact .aP (.aa _)
 |3,h1,h2=>cases h1;cases h2;exact hc
 |n+4,h1,h2=>simp at h1
structure Mk where
 O:List Bool
 P:List Bool
def dx(L:List Bool)(i:Nat):Prop:=L[i]? =some true
def vO(l:List Obj)(z:Int)(i:Nat):Prop:=z=i/\∃o,l[i]? =some o/\o.ah≠0
def vP(ops:List bC)(z:Int)(c:Nat):Prop:=z=c/\c<ops.length
def sE(o:Obj)(z:Int):Prop:=∃nm:ByteArray,fD (nm,z)∈o.aj
def sQ(o:Obj)(z:Int):Prop:=∃q,q∈o.ak/\q.has=true/\q.eJ=z
structure Step(l:List Obj)(ops:List bC)(E:Nat->Prop)(a b:Mk):Prop where
 lo:b.O.length=a.O.length
 lp:b.P.length=a.P.length
 mo:∀i,dx a.O i->dx b.O i
 mp:∀c,dx a.P c->dx b.P c
 co:∀i o,dx b.O i->¬dx a.O i->¬E i->l[i]? =some o->(∀z n,sE o z->vO l z n->dx b.O n)/\(∀z c,sQ o z->vP ops z c->dx b.P c)
 cp:∀c o,dx b.P c->¬dx a.P c->ops[c]? =some o->∀n,vO l o.bt n->dx b.O n
structure Cl(l:List Obj)(ops:List bC)(RO RP:Nat->Prop):Prop where
 e:∀i o,RO i->l[i]? =some o->∀z n,sE o z->vO l z n->RO n
 q:∀i o,RO i->l[i]? =some o->∀z c,sQ o z->vP ops z c->RP c
 p:∀c o,RP c->ops[c]? =some o->∀n,vO l o.bt n->RO n
def Mq(RO RP:Nat->Prop)(a:Mk):Prop:=(∀i,dx a.O i->RO i)/\(∀c,dx a.P c->RP c)
def dH(L:List Bool):Nat:=(L.filter (fun b=>!b)).length
def Mk.mu(a:Mk):Nat:=dH a.O+dH a.P
theorem Step.refl{l:List Obj}{ops:List bC}{E:Nat->Prop}(a:Mk):Step l ops E a a:=
 ⟨rfl,rfl,fun _ h=>h,fun _ h=>h,fun _ _ h h2=>absurd h h2,fun _ _ h h2=>absurd h h2⟩
theorem Step.trans{l:List Obj}{ops:List bC}{E:Nat->Prop}{a b c:Mk}(h1:Step l ops E a b)(h2:Step l ops (fun _=>False) b c):Step l ops E a c:=by
 refine⟨h2.lo.trans h1.lo,h2.lp.trans h1.lp,fun i h=>h2.mo i (h1.mo i h),fun i h=>h2.mp i (h1.mp i h),fun i o hi hn hE ho=>?_,fun i o hi hn ho n hv=>?_⟩
 .by_cases hb:dx b.O i
  .obtain⟨k1,k2⟩:=h1.co i o hb hn hE ho;exact⟨fun z n hz hv=>h2.mo n (k1 z n hz hv),fun z c hz hv=>h2.mp c (k2 z c hz hv)⟩
  .exact h2.co i o hi hb (fun h=>h) ho
 .by_cases hb:dx b.P i
  .exact h2.mo n (h1.cp i o hb hn ho n hv)
  .exact h2.cp i o hi hb ho n hv
theorem jC:∀(a b:List Bool),b.length=a.length->(∀i,dx a i->dx b i)->dH b<=dH a
 | [],[],_,_=>QN _
 | [],_::_,h,_=>by simp at h
 |_::_,[],h,_=>by simp at h
 |x::a,y::b,h,hm=>by
  have ih:=jC a b (by simpa using h) (fun i hi=>by simpa[dx]using hm (i+1) (by simpa[dx]using hi))
  have h0:x=true->y=true:=fun hx=>by simpa[dx]using hm 0 (by simp[dx,hx])
  unfold dH at ih⊢;cases x<;>cases y<;>simp at h0⊢<;>omega
theorem oW:∀(a:List Bool)(n:Nat),a[n]? =some false->dH (a.set n true)+1=dH a
 | [],n,h=>by simp at h
 |x::a,0,h=>by simp at h;subst h;simp[dH]
 |x::a,n+1,h=>by
  have ih:=oW a n (by simpa using h)
  unfold dH at ih⊢;cases x<;>simp at ih⊢<;>omega
theorem FE{L:List Bool}{n i:Nat}(h:dx L i):dx (L.set n true) i:=by
 unfold dx at h⊢;rw[aaq];split
 .rename_i e;subst e;have:=(Hy.1 h).1;simp[this]
 .exact h
theorem p4{L:List Bool}{n:Nat}(h:n<L.length):dx (L.set n true) n:=by unfold dx;simp[h]
theorem jN{L:List Bool}{n i:Nat}(h:dx (L.set n true) i):dx L i\/i=n:=by
 unfold dx at h⊢;rw[aaq]at h;split at h
 .rename_i e;exact .inr e.symm
 .exact .inl h
structure PO(l:List Obj)(ops:List bC)(z:Int)(a b:Mk):Prop where
 st:Step l ops (fun _=>False) a b
 on:∀n,vO l z n->dx b.O n
 sd:∀RO RP,Cl l ops RO RP->Mq RO RP a->(∀n,vO l z n->RO n)->Mq RO RP b
structure PP(l:List Obj)(ops:List bC)(z:Int)(a b:Mk):Prop where
 st:Step l ops (fun _=>False) a b
 on:∀c,vP ops z c->dx b.P c
 sd:∀RO RP,Cl l ops RO RP->Mq RO RP a->(∀c,vP ops z c->RP c)->Mq RO RP b
theorem PO.none{l:List Obj}{ops:List bC}{z:Int}{a:Mk}(h:∀n,vO l z n->dx a.O n):PO l ops z a a:=⟨.refl a,h,fun _ _ _ h _=>h⟩
theorem PP.none{l:List Obj}{ops:List bC}{z:Int}{a:Mk}(h:∀n,vP ops z n->dx a.P n):PP l ops z a a:=⟨.refl a,h,fun _ _ _ h _=>h⟩
structure xp(l:List Obj)(ops:List bC)(n:Nat)(a b:Mk)(nE nQ:Nat)(es:List (ByteArray×Int))(qs:List bp):Prop where
 st:Step l ops (fun i=>i=n) a b
 on:dx b.O n
 e:∀j e,j<nE->es[j]? =some e->∀m,vO l e.2 m->dx b.O m
 q:∀j q,j<nQ->qs[j]? =some q->q.has=true->∀c,vP ops q.eJ c->dx b.P c
 sd:∀RO RP,Cl l ops RO RP->Mq RO RP a->RO n->Mq RO RP b
theorem xp.start{l:List Obj}{ops:List bC}{n:Nat}{a:Mk}(hn:n<a.O.length)(es:List (ByteArray×Int))(qs:List bp):xp l ops n a ⟨a.O.set n true,a.P⟩ 0 0 es qs:=by
 refine⟨⟨aK,rfl,fun i h=>FE h,fun i h=>h,fun i o h h2 h3=>?_,fun _ _ h h2=>absurd h h2⟩,p4 hn,fun j e h=>absurd h (aal j),fun j e h=>absurd h (aal j),fun RO RP _ h hr=>⟨fun i hi=>?_,h.2⟩⟩
 .rcases jN h with h|h
  .exact absurd h h2
  .exact absurd h h3
 .rcases jN hi with hi|rfl
  .exact h.1 i hi
  .exact hr
theorem xp.TA{l:List Obj}{ops:List bC}{n:Nat}{a b c:Mk}{j:Nat}{es:List (ByteArray×Int)}{qs:List bp}(h:xp l ops n a b j 0 es qs){e:ByteArray×Int}(he:es[j]? =some e)(hc:PO l ops e.2 b c){o:Obj}(ho:l[n]? =some o)(pg:o.aj=es.map fD):xp l ops n a c (j+1) 0 es qs:=by
 have hse:sE o e.2:=⟨e.1,by rw[pg];exact List.mem_map_of_mem (O9 he)⟩
 refine⟨h.st.trans hc.st,hc.st.mo n h.on,fun i x hi hx m hv=>?_,fun i x hi=>absurd hi (aal i),fun RO RP gK jI hr=>hc.sd RO RP gK (h.sd RO RP gK jI hr) fun m hv=>gK.e n o hr ho e.2 m hse hv⟩
 rcases XN i j with pG|pG
 .exact hc.st.mo m (h.e i x pG hx m hv)
 .have:i=j:=om;subst this;rw[he]at hx;cases hx;exact hc.on m hv
theorem xp.TB{l:List Obj}{ops:List bC}{n:Nat}{a b c:Mk}{k j:Nat}{es:List (ByteArray×Int)}{qs:List bp}(h:xp l ops n a b k j es qs){q:bp}(hq:qs[j]? =some q)(hh:q.has=true)(hc:PP l ops q.eJ b c){o:Obj}(ho:l[n]? =some o)(Xc:o.ak=qs):xp l ops n a c k (j+1) es qs:=by
 have hsq:sQ o q.eJ:=⟨q,by rw[Xc];exact O9 hq,hh,rfl⟩
 refine⟨h.st.trans hc.st,hc.st.mo n h.on,fun i x hi hx m hv=>hc.st.mo m (h.e i x hi hx m hv),fun i x hi hx TD m hv=>?_,fun RO RP gK jI hr=>hc.sd RO RP gK (h.sd RO RP gK jI hr) fun m hv=>gK.q n o hr ho q.eJ m hsq hv⟩
 rcases XN i j with pG|pG
 .exact hc.st.mp m (h.q i x pG hx TD m hv)
 .have:i=j:=om;subst this;rw[hq]at hx;cases hx;exact hc.on m hv
theorem xp.TE{l:List Obj}{ops:List bC}{n:Nat}{a b:Mk}{k j:Nat}{es:List (ByteArray×Int)}{qs:List bp}(h:xp l ops n a b k j es qs){q:bp}(hq:qs[j]? =some q)(hh:q.has=false):xp l ops n a b k (j+1) es qs:=by
 refine⟨h.st,h.on,h.e,fun i x hi hx TD m hv=>?_,h.sd⟩
 rcases XN i j with pG|pG
 .exact h.q i x pG hx TD m hv
 .have:i=j:=om;subst this;rw[hq]at hx;cases hx;rw[hh]at TD;cases TD
theorem xp.hU{l:List Obj}{ops:List bC}{n:Nat}{a b:Mk}{es:List (ByteArray×Int)}{qs:List bp}(h:xp l ops n a b es.length qs.length es qs){o:Obj}(ho:l[n]? =some o)(hk:o.ah≠0)(pg:o.aj=es.map fD)(Xc:o.ak=qs):PO l ops (n:Int) a b:=by
 refine⟨⟨h.st.lo,h.st.lp,h.st.mo,h.st.mp,fun i x hi MM _ hx=>?_,h.st.cp⟩,fun m hv=>?_,fun RO RP gK jI hr=>h.sd RO RP gK jI (hr n ⟨rfl,o,ho,hk⟩)⟩
 .by_cases jI:i=n
  .subst jI;rw[ho]at hx;cases hx;refine⟨fun z m⟨nm,hm⟩hv=>?_,fun z c⟨q,hq,hh,hz⟩hv=>?_⟩
   .rw[pg]at hm;obtain⟨e,he,mZ⟩:=aae.1 hm;have:e.2=z:=by simp[fD]at mZ;exact mZ.2
    subst this;obtain⟨j,hj⟩:=Xz he;exact h.e j e (Hy.1 hj).1 hj m hv
   .rw[Xc]at hq;obtain⟨j,hj⟩:=Xz hq;subst hz;exact h.q j q (Hy.1 hj).1 hj hh c hv
  .exact h.st.co i x hi MM jI hx
 .have:m=n:=by have:=hv.1;omega
  subst this;exact h.on
theorem PP.of{l:List Obj}{ops:List bC}{a b:Mk}{c:Nat}(hc:c<a.P.length){o:bC}(ho:ops[c]? =some o)(h:PO l ops o.bt ⟨a.O,a.P.set c true⟩ b):PP l ops (c:Int) a b:=by
 have zF:Step l ops (fun _=>False) a b:=by
  refine⟨h.st.lo,by have:=h.st.lp;simpa using this,h.st.mo,fun i hi=>h.st.mp i (FE hi),fun i x hi MM=>h.st.co i x hi MM,fun i x hi MM hx n hv=>?_⟩
  by_cases Zs:i=c
  .subst Zs;rw[ho]at hx;cases hx;exact h.on n hv
  .exact h.st.cp i x hi (fun hs=>(jN hs).elim MM Zs) hx n hv
 refine⟨zF,fun d hd=>?_,fun RO RP gK jI hr=>?_⟩
 .have:d=c:=by have:=hd.1;omega
  subst this;exact h.st.mp d (p4 hc)
 .have Zt:RP c:=hr c ⟨rfl,(Hy.1 ho).1⟩;exact h.sd RO RP gK ⟨jI.1,fun i hi=>(jN hi).elim (jI.2 i) fun e=>e▸Zt⟩ fun n hv=>gK.p c o Zt ho n hv
def c135:LF:= ⟨88,[],(.seq (.seq (.ai [qm 9 1,qu 10 (.aE .lss 9 (qi 0)),qm 11 10,qg 12 (.aD 1) 11 false,qg 13 (.aD 0) 11 false,qg 14 (.aR 13) 11 false,qg 15 (.bQ 1 14) 11 false,qg 16 (.load false 1 15) 11 false,qg 17 (.len 1 16) 11 false,qg 18 (.aE .geq 12 17) 11 false,qu 19 (.pick 11 (qb true) 18),qm 20 19,qg 21 (.aD 0) 20 false,qg 22 (.aR 21) 20 false,qg 23 (.bQ 1 22) 20 false,qg 24 (.load false 1 23) 20 false,qg 25 (.aD 1) 20 false,qg 26 (.b7 1 24 25) 20 false,qg 27 (.load false 1 26) 20 false,qu 28 (.pick 20 (qb true) 27),qm 29 28,qg 30 (.aD 0) 29 false,qg 31 (.aR 30) 29 false,qg 32 (.bQ 0 31) 29 false,qg 33 (.load false 1 32) 29 false,qg 34 (.aR 33) 29 false,qg 35 (.bQ 0 34) 29 false,qg 36 (.load false 1 35) 29 false,qg 37 (.aD 1) 29 false,qg 38 (.b7 9 36 37) 29 false,qg 39 (.bQ 0 38) 29 false,qg 40 (.load false 1 39) 29 false,qg 41 (.aE .eql 40 (qi 0)) 29 false,qu 42 (.pick 29 (qb true) 41)]) (.cond 42 .ret .skip)) (.seq (.ai [qm 43 0,qu 44 (.aR 43),qf 45 1 44,ql 46 45,qm 47 1,qu 48 (.b7 1 46 47),qw (.store 1 48 (qb true))]) (.seq (.ai [qm 49 0,qu 50 (.aR 49),qf 51 0 50,ql 52 51,qu 53 (.aR 52),qf 54 0 53,ql 55 54,qm 56 1,qu 57 (.b7 9 55 56),qm 4 57]) (.seq (.seq (.ai [qm 58 4,qu 59 (.aR 58),qf 60 2 59,ql 61 60,qu 62 (.len 1 61),qu 63 (.aD (qi 0))]) (.block 0 (.loop (.seq (.ai [qu 64 (.aE .lss 63 62)]) (.seq (.cond 64 .skip (.exit 0)) (.seq (.block 1 (.seq (.ai [qu 65 (.b7 2 61 63),qL 66 2 65,qu 6 (.alloc [(.aa (.val (.string ⟨#[]⟩))),(qd 0)]),qw (.store 2 6 66)]) (.ai [qm 67 0,qf 68 1 6,ql 69 68,qu 70 (qc 135 [67,69])]))) (.ai [qu 71 (.aE .add 63 (qi 1)),qm 63 71]))))))) (.seq (.ai [qm 72 4,qu 73 (.aR 72),qf 74 5 73,ql 75 74,qu 76 (.len 1 75),qu 77 (.aD (qi 0))]) (.block 2 (.loop (.seq (.ai [qu 78 (.aE .lss 77 76)]) (.seq (.cond 78 .skip (.exit 2)) (.seq (.block 3 (.seq (.ai [qu 79 (.b7 4 75 77),qL 80 4 79,qu 8 (.alloc [.aB,(.aa (.val (.bool false))),(qd 0),(qd 0)]),qw (.store 4 8 80)]) (.seq (.ai [qf 81 1 8,ql 82 81]) (.cond 82 (.ai [qm 83 0,qf 84 2 8,qL 85 2 84,qu 86 (qc 136 [83,85])]) .skip)))) (.ai [qu 87 (.aE .add 77 (qi 1)),qm 77 87])))))))))))⟩
def c136:LF:= ⟨48,[],(.seq (.ai [qu 3 (.box 1)]) (.seq (.seq (.bT [qf 4 0 3,ql 5 4,qu 6 (.aE .lss 5 (qi 0)),qm 7 6,qg 8 (.bQ 0 3) 7 false,qg 9 (.load false 1 8) 7 false,qg 10 (.aD 0) 7 false,qg 11 (.aR 10) 7 false,qg 12 (.bQ 2 11) 7 false,qg 13 (.load false 1 12) 7 false,qg 14 (.len 1 13) 7 false,qg 15 (.aE .geq 9 14) 7 false,qu 16 (.pick 7 (qb true) 15),qm 17 16,qg 18 (.aD 0) 17 false,qg 19 (.aR 18) 17 false,qg 20 (.bQ 2 19) 17 false,qg 21 (.load false 1 20) 17 false,qg 22 (.bQ 0 3) 17 false,qg 23 (.load false 1 22) 17 false,qg 24 (.b7 1 21 23) 17 false,qg 25 (.load false 1 24) 17 false,qu 26 (.pick 17 (qb true) 25)] [(.cons 0 none (.cons 1 none (.cons 2 none (.cons 3 none (.cons 4 none (.cons 5 none (.cons 6 none (.cons 7 none (.cons 8 none (.cons 9 none (.cons 10 none (.cons 11 none (.cons 12 none (.cons 13 none (.cons 14 none (.cons 15 none (.cons 16 none (.cons 17 none (.cons 18 none (.cons 19 none (.cons 20 none (.cons 21 none (.cons 22 none .nil)))))))))))))))))))))))]) (.cond 26 .ret .skip)) (.seq (.bT [qm 27 0,qu 28 (.aR 27),qf 29 2 28,ql 30 29,qf 31 0 3,ql 32 31,qu 33 (.b7 1 30 32),qw (.store 1 33 (qb true))] [(.cons 0 none (.cons 1 none (.cons 2 none (.cons 3 none (.cons 4 none (.cons 5 none (.cons 6 none (.cons 7 (some []) .nil))))))))]) (.bT [qm 34 0,qm 35 0,qu 36 (.aR 35),qf 37 0 36,ql 38 37,qu 39 (.aR 38),qf 40 1 39,ql 41 40,qf 42 0 3,ql 43 42,qu 44 (.b7 2 41 43),qf 45 0 44,ql 46 45,qu 47 (qc 135 [34,46])] [(.cons 0 none (.cons 1 none (.cons 2 none (.cons 3 none (.cons 4 none (.cons 5 none (.cons 6 none (.cons 7 none (.cons 8 none (.cons 9 none (.cons 10 none (.cons 11 none (.cons 12 none (.cons 13 (some []) .nil))))))))))))))]))))⟩
def bE(b:Bool):List Dt:=[.val (.bool b)]
theorem l135:bq Tryz.prog Tryz.f135=some c135:=by kernel_rfl
theorem l136:bq Tryz.prog Tryz.f136=some c136:=by kernel_rfl
def wv(l:List Obj)(ops:List bC)(a:Mk):Prop:=a.O.length=l.length/\a.P.length=ops.length
theorem ro{L:List Bool}{n:Nat}(h:n<L.length):cR (af (L.map bE)) n=some [.aa (.val (.bool L[n]))]:=bA bE L h
theorem xq{L:List Bool}{n:Nat}(h:n<L.length):dt (n:Int) (lenOf (af (L.map bE)).length 0 none)=some n:=bP (by show n<(af (L.map bE)).length;rw[bb,LW];exact h)
theorem J8{L:List Bool}{n:Nat}:a7 (af (L.map bE)) n [CC.aa (.val (.bool true))]=af ((L.set n true).map bE):=mc bE L n true
theorem xp.OS{l:List Obj}{ops:List bC}{n:Nat}{a b:Mk}{k j:Nat}{es:List (ByteArray×Int)}{qs:List bp}(h:xp l ops n a b k j es qs):b.mu<=(⟨a.O.set n true,a.P⟩:Mk).mu:=by
 refine Nat.add_le_add (jC _ _ (by rw[aab];exact h.st.lo) fun i hi=>?_) (jC _ _ h.st.lp h.st.mp)
 rcases jN hi with hi|rfl
 .exact h.st.mo i hi
 .exact h.on
theorem M5{qs:List bp}{k:Nat}(h:k<qs.length):dg (qs.map bp.enc) (k:Nat)=some [.sl 1 qs[k].data,.val (.bool qs[k].has),.val (.int .i64 qs[k].eJ),.val (.int .i64 qs[k].cn)]:=by rw[bF,O6,tq h];rfl
structure Zu where
 j:Nat
 b:Mk
end Go.Proofs.YthagjdhjmamakaaGreatDoor
