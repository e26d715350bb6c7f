/- Part 18 of 39: what the law stands on. -/
import Derived.Test.YtodckkkbiidffaaGreatDoorT16
import Derived.Test.YtodckkkbiidffaaGreatDoorT17
set_option linter.unusedVariables false
set_option linter.unusedSimpArgs false
set_option linter.unnecessarySimpa false
set_option maxRecDepth 100000
set_option maxHeartbeats 64000000
namespace Go.Proofs.YtodckkkbiidffaaGreatDoor
open Go.AM Go.ChangeShapes Go.WideShapes Go.ChangeAt Go.RowKit
def c115:LF:= ⟨33,[.tmp 6],(.seq (.ai [qu 6 (.aF qe)]) (.seq (.ai [qm 8 0,qm 9 1,qm 10 2,qm 11 0,qu 12 (.len 1 11),qu 13 (.mD 4 8 (some 9) (some 10) (some 12))]) (.seq (.seq (.ai [qm 14 1,qm 15 2,qu 16 (.aH .eql 14 15)]) (.cond 16 (.seq (.ai [qm 17 0,qm 6 17]) .ret) .skip)) (.seq (.ai [qm 18 0,qu 19 (.len 1 18),qm 7 19]) (.seq (.bU [qm 20 0,qm 21 1,qu 22 (.mD 4 20 none (some 21) none),qm 23 0,qm 24 2,qu 25 (.mD 4 23 (some 24) none none),qu 26 (.mE 4 48 22 25),qm 0 26] [(.cons 0 none (.cons 1 none (.cons 2 none (.cons 3 none (.cons 4 none (.cons 5 none (.cons 6 (some []) (.cons 7 none .nil))))))))]) (.seq (.ai [qm 27 0,qm 28 0,qu 29 (.len 1 28),qm 30 7,qu 31 (.mD 4 27 (some 29) (some 30) none),qw (.P5 4 [.aB,(.aa (.val (.bool false))),(qd 0),(qd 0)] 31)]) (.seq (.ai [qm 32 0,qm 6 32]) .ret)))))))⟩
def rW:List CC:=[.aB,.aa (.val (.bool false)),.aa (.val (.int .i64 0)),.aa (.val (.int .i64 0))]
theorem iJ:∀ds:List (List Dt),eN (af ds)=true
 | []=>rfl
 |d::r=>by
  have h1:∀e:List Dt,oa (e.map CC.aa)=true:=by
   intro e
   induction e with
   |nil=>rfl
   |cons x e ih=>simpa[oa,CC.gS]using ih
  have:=iJ r;simp only[af,aar,eN]at this⊢;rw[h1,this];rfl
theorem l115:bs Tryz.prog Tryz.f115=some c115:=by kernel_rfl
def fe(x:bo)(r:List bo):List (List CC):=af (r.map bo.enc)++ [rW]
theorem IJ(x:bo)(r:List bo)(hl:r.length<=4194303):body Tryz.prog c115 [.rv (.one (.row 0 4 0 none)),an .i64 0,an .i64 1] [.row 4 (af ((x::r).map bo.enc))] (fun v m=>v= .rv (.one (.row 0 4 0 (some r.length)))/\m=[.row 4 (fe x r)]):=by
 have hlen:(af ((x::r).map bo.enc)).length=r.length+1:=by simp[af]
 have Nx:(af ((x::r).map bo.enc)).drop 1=af (r.map bo.enc):=rfl;generalize af ((x::r).map bo.enc)=D at hlen Nx;have hL:lenOf D.length 0 none=r.length+1:=by rw[gA,hlen];rfl
 have hE:cu D 1 (some (r.length+1))=af (r.map bo.enc):=by rw[ke];simp only;rw[<-hlen,aal,Nx]
 have Ek:(af (r.map bo.enc)).length=r.length:=by simp[af]
 refine cj ?_ ?_
 .show(Nat.ble 0 1&&(Nat.ble 1 (lenOf D.length 0 none)&&Nat.ble (lenOf D.length 0 none) (cu D 0 none).length))=true;rw[hL];simp[cu,hlen,aak]
 rw[hL];refine cj ?_ ?_
 .show(Nat.ble 1 (lenOf D.length 0 none)&&Nat.ble (lenOf D.length 0 none) (D.length-0))=true;rw[hL,hlen];simp[aak]
 rw[hL];refine cj ?_ ?_
 .show(Nat.beq 0 0&&(Nat.beq 4 4&&(Nat.beq 4 4&&(Nat.ble 1 D.length&&(Nat.ble (0+(cu D 1 (some (r.length+1))).length) D.length&&eN (cu D 1 (some (r.length+1))))))))=true;rw[hE,iJ,Ek,hlen];simp[aak]
 refine⟨?_,?_⟩
 .rw[hlen];omega
 refine⟨trivial,?_⟩;have xx:(cF D 0 (af (r.map bo.enc))).length=r.length+1:=by rw[tz (by rw[Ek,hlen];omega),hlen]
 refine cj ?_ ?_
 .simp only[j0,aai,hE,Ek,gA,aax,aa9,xx];simp[aak]
 refine cj ?_ ?_
 .simp only[j0,aai,hE,Ek,gA,aax,aa9,xx,oc];simp[aak]
 refine cj ?_ ?_
 .simp only[j0,aai,hE,Ek,gA,aax,aa9,xx,oc];simp[aaQ]
 have eA:cF (cF D 0 (af (r.map bo.enc))) r.length (fC 1 rW)=fe x r:=by
  have h1:cF D 0 (af (r.map bo.enc))=af (r.map bo.enc)++D.drop r.length:=by simp[cF,Ek]
  rw[h1];simp only[cF,fb,fe];rw[List.take_append_of_le_length (by rw[Ek];exact Pq _),aaR (by rw[Ek];exact Pq _)]
  congr 1;have:(af (r.map bo.enc)++D.drop r.length).length=r.length+1:=by simp[Ek,hlen]
  rw[List.drop_of_length_le (by rw[this];simp)]
  rfl
 refine⟨?_,?_⟩
 .show CV.rv (.one (.row 0 4 0 (some (0+(cu D (gu 0 1) (some (gu 0 (r.length+1)))).length))))=_;simp only[j0,aai,hE,Ek]
 .rw[<-eA];show [Bk.row 4 (cF (cF D 0 (cu D (gu 0 1) (some (gu 0 (r.length+1))))) _ (fC (_-_) rW))]=_;simp only[j0,aai,hE,Ek,gA,aax,aa9,xx,oc,Nat.add_sub_cancel_left]
theorem OU(x:bo)(r:List bo)(hl:r.length<=4194303){m:Mem}{K:CV->Mem->Prop}(id:Nat)(hb:cR m id=some (.row 4 (af ((x::r).map bo.enc))))(h:K (.rv (.one (.row id 4 0 (some r.length)))) (aZ m id (.row 4 (fe x r)))):
  aq Tryz.prog 115 [.rv (.one (.row id 4 0 none)),an .i64 0,an .i64 1] m K:=by
 have hid:id<m.length:=by rw[aU]at hb;exact(Gf.1 hb).1
 refine bw [id] m.length rfl rfl rfl (by simp[eR,hid]) (args0:=[.rv (.one (.row 0 4 0 none)),an .i64 0,an .i64 1]) rfl (fun i b' hi=>?_) (aX Tryz.func115 l115 (IJ x r hl)) (fun r1 m1 hr=>?_)
 .cases i with
  |zero=>
   simp at hi;subst hi;refine .inr ⟨fun h=>h,_,?_,.bP rfl⟩
   rw[aU]at hb;exact hb
  |succ i=>simp at hi
 .obtain⟨rfl,rfl⟩:=hr;refine⟨Pq _,?_⟩;have VH:(Bk.row 4 (fe x r)).aQ (sg [id] m.length)= .row 4 (fe x r):=by simp only[Bk.aQ,fe,aav,db];rfl
  show K (.rv (.one (.row id 4 0 (some r.length)))) (cU m [id] [(Bk.row 4 (fe x r)).aQ (sg [id] m.length)]);rw[VH];simp only[cU,cf,abi];exact h
def c75:LF:= ⟨78,[.tmp 4,.cell true 4 5,.tmp 6],(.seq (.ai [qu 4 (.aF qe),qu 5 (.alloc [.aB,(.aa (.val (.bool false))),(qd 0),(qd 0)]),qu 6 (.aF (qi 0))]) (.seq (.seq (.ai [qm 10 1,qu 11 (.aH .lss 10 (qi 0)),qm 12 11,qg 13 (.aF 1) 12 false,qg 14 (.aF 0) 12 false,qg 15 (.len 1 14) 12 false,qg 16 (.aH .geq 13 15) 12 false,qu 17 (.pick 12 (qb true) 16),qm 18 17,qg 19 (.aF 0) 18 false,qg 20 (.aF 1) 18 false,qg 21 (.cr 9 19 20) 18 false,qg 22 (.bX 0 21) 18 false,qg 23 (.load false 1 22) 18 false,qg 24 (.aH .neq 23 (qi 4)) 18 false,qu 25 (.pick 18 (qb true) 24)]) (.cond 25 (.seq (.ai [qu 26 (.build [.aB,(.aa (.val (.bool false))),(qd 0),(qd 0)] []),qu 4 (.aF qe),qw (.store 4 5 26),qu 6 (.aF (qi 8))]) .ret) .skip)) (.seq (.seq (.ai [qm 27 0,qm 28 1,qu 29 (.cr 9 27 28),qf 30 5 29,ql 31 30,qu 32 (.len 1 31),qu 33 (.aH .eql 32 (qi 0))]) (.cond 33 (.seq (.seq (.ai [qm 34 0,qm 35 1,qu 36 (.cr 9 34 35),qf 37 4 36,ql 38 37,qm 7 38]) (.seq (.ai [qm 39 7,qu 40 (.aH .lss 39 (qi 0)),qm 41 40,qg 42 (.aF 7) 41 false,qg 43 (.aF 0) 41 false,qg 44 (.len 1 43) 41 false,qg 45 (.aH .geq 42 44) 41 false,qu 46 (.pick 41 (qb true) 45),qm 47 46,qg 48 (.aF 0) 47 false,qg 49 (.aF 7) 47 false,qg 50 (.cr 9 48 49) 47 false,qg 51 (.bX 0 50) 47 false,qg 52 (.load false 1 51) 47 false,qg 53 (.aH .neq 52 (qi 4)) 47 false,qu 54 (.pick 47 (qb true) 53)]) (.cond 54 (.seq (.ai [qu 55 (.build [.aB,(.aa (.val (.bool false))),(qd 0),(qd 0)] []),qu 4 (.aF qe),qw (.store 4 5 55),qu 6 (.aF (qi 17))]) .ret) .skip))) (.seq (.ai [qu 56 (.build [.aB,(.aa (.val (.bool false))),(qd 0),(qd 0)] []),qu 4 (.aF qe),qw (.store 4 5 56),qu 6 (.aF (qi 16))]) .ret)) .skip)) (.seq (.ai [qm 57 0,qu 58 (qc 98 [57]),qm 8 58]) (.seq (.ai [qm 59 8,qm 60 1,qu 61 (.cr 9 59 60),qf 62 5 61,ql 63 62,qu 64 (.cr 4 63 (qi 0)),qL 65 4 64,qu 9 (.alloc [.aB,(.aa (.val (.bool false))),(qd 0),(qd 0)]),qw (.store 4 9 65)]) (.seq (.ai [qm 66 8,qm 67 1,qm 68 8,qm 69 1,qu 70 (.cr 9 68 69),qf 71 5 70,ql 72 71,qu 73 (qc 115 [72,(qi 0),(qi 1)]),qu 74 (.cr 9 66 67),qf 75 5 74,qw (.store 1 75 73)]) (.seq (.bU [qm 76 8,qL 77 4 9,qm 4 76,qw (.store 4 5 77),qu 6 (.aF (qi 0))] [(.cons 0 none (.cons 1 none (.cons 2 none (.cons 3 (some []) (.cons 4 none .nil)))))]) .ret)))))))⟩
def lj:bo:=⟨[],false,0,0⟩
def bo.rv(m:bo):RV:= .agg (m.enc.map .aa)
def e9(l:List Obj)(e:Int):List Obj×bo×Int:=
 if e<0\/e>=l.length then([],lj,8)else match l[e.toNat]? with
 |none=>([],lj,8)
 |some o=>if o.ah≠4 then([],lj,8)else match o.ak with
  | []=>if o.aC<0\/o.aC>=l.length then([],lj,17)else match l[o.aC.toNat]? with
   |none=>([],lj,17)
   |some q=>if q.ah≠4 then([],lj,17)else([],lj,16)
  |x::r=>(l.set e.toNat {o with ak:=r},x,0)
def tR(x:List Obj×bo×Int):CV:= .bF [li x.1,x.2.1.rv,cC x.2.2]
theorem XW{σ:Nat->Nat}{m:Mem}{Z:Nat->Prop}{a b c d:RV}{x:Int}(h:u3 σ m Z a b)(hc:u3 σ m Z c d):po σ m Z (.bF [a,c,cC x]) (.bF [b,d,cC x]):=by
 refine .bF rfl fun i r r' h1 h2=>?_
 match i,h1,h2 with
 |0,h1,h2=>cases h1;cases h2;exact h
 |1,h1,h2=>cases h1;cases h2;exact hc
 |2,h1,h2=>cases h1;cases h2;exact .one (.aQ (.aa _))
theorem ZF{σ:Nat->Nat}{m:Mem}{Z:Nat->Prop}:u3 σ m Z (.agg rW) lj.rv:=by
 refine .agg rfl fun i c c' h1 h2=>?_
 match i,h1,h2 with
 |0,h1,h2=>cases h1;cases h2;exact .eZ (.aB 1)
 |1,h1,h2=>cases h1;cases h2;exact .aQ (.aa _)
 |2,h1,h2=>cases h1;cases h2;exact .aQ (.aa _)
 |3,h1,h2=>cases h1;cases h2;exact .aQ (.aa _)
 |n+4,h1,h2=>simp[rW]at h1
theorem R3{σ:Nat->Nat}{m:Mem}{Z:Nat->Prop}(x:bo):u3 σ m Z (.agg (x.enc.map .aa)) x.rv:=by
 refine .agg rfl fun i c c' h1 h2=>?_
 rw[h1]at h2;cases h2;rw[NO]at h1;cases hd:x.enc[i]? with
 |none=>rw[hd]at h1;cases h1
 |some d=>
  rw[hd]at h1;cases h1;exact .aQ (.aa d)
theorem OV{m:Mem}{Z:Nat->Prop}{p:Option Nat}{id:Nat}{x:bo}{r:List bo}(hz:Z id)(hb:m[id]? =some (.row 4 (fe x r))):dj m Z p (.row id 4 0 (some r.length)) (.sl 4 (r.map bo.enc)):=by
 have h:=dj.row (m:=m) (Z:=Z) (p:=p) id 4 0 (some r.length) (fe x r) (r.map bo.enc++ [lj.enc]) hz hb (by simp[fe,af]) (fun i cs es h1 h2=>?_) (fun i cs es j c d h1 h2 h3 h4=>?_)
 .have:cu (r.map bo.enc++ [lj.enc]) 0 (some r.length)=r.map bo.enc:=by rw[ke];simp
  rw[this]at h;exact h
 .rcases Wj i r.length with hi|hi
  .rw[fe,Tz (by simpa[af]using hi),af,NO]at h1
   rw[Tz (by simpa using hi)]at h2
   rw[h2]at h1;cases h1;simp
  .rw[fe,SF (by simpa[af]using hi)]at h1
   rw[SF (by simpa using hi)]at h2
   have e1:(af (r.map bo.enc)).length=r.length:=by simp[af]
   have e2:(r.map bo.enc).length=r.length:=aI;rw[e1]at h1;rw[e2]at h2;cases hn:i-r.length with
   |zero=>rw[hn]at h1 h2;cases h1;cases h2;rfl
   |succ n=>rw[hn]at h1;simp at h1
 .rcases Wj i r.length with hi|hi
  .rw[fe,Tz (by simpa[af]using hi),af,NO]at h1
   rw[Tz (by simpa using hi)]at h2
   rw[h2]at h1;cases h1;rw[NO,h4]at h3;cases h3;exact .aa _
  .rw[fe,SF (by simpa[af]using hi)]at h1
   rw[SF (by simpa using hi)]at h2
   have e1:(af (r.map bo.enc)).length=r.length:=by simp[af]
   have e2:(r.map bo.enc).length=r.length:=aI;rw[e1]at h1;rw[e2]at h2;cases hn:i-r.length with
   |zero=>
    rw[hn]at h1 h2;cases h1;cases h2
    match j,h3,h4 with
    |0,h3,h4=>cases h3;cases h4;exact .aB 1
    |1,h3,h4=>cases h3;cases h4;exact .aa _
    |2,h3,h4=>cases h3;cases h4;exact .aa _
    |3,h3,h4=>cases h3;cases h4;exact .aa _
    |n+4,h3,h4=>simp[rW]at h3
   |succ n=>rw[hn]at h1;simp at h1
theorem l75:bs Tryz.prog Tryz.f75=some c75:=by kernel_rfl
theorem qG(l:List Obj)(hf:jV l)(e:Int):body Tryz.prog c75 [cq l,an .i64 e] [] (fun r m=>∃r' m',View 0 ⟨[r],m⟩ ⟨[r'],m'⟩/\r'=tR (e9 l e)/\m'=[]):=by
 have Ho:(((l.map Obj.enc).length:Nat):Int)=(l.length:Int):=aI;have bad:∀(x:Int),e9 l e=([],lj,x)->∃r' m',View 0 ⟨[CV.bF [.one .aB,.agg rW,cC x]],[.var rW]⟩ ⟨[r'],m'⟩/\r'=tR (e9 l e)/\m'=[]:=by intro x hx;refine⟨_,_,View.o 1 [] [] (.put (XW (b:=li []) (.one (.eZ (.aB 9))) ZF) .nil) (.nil _),?_,rfl⟩;rw[hx];rfl
 refine aJ (fun h=>?_) (fun h1=>?_)
 .exact bad 8 (by rw[e9,if_pos (.inl h)])
 refine aJ (fun h=>?_) (fun h2=>?_)
 .exact bad 8 (by rw[e9,if_pos (.inr (by rw[<-Ho];exact h))])
 have h2:¬e>=(l.length:Int):=by rw[<-Ho];exact h2
 obtain⟨k,rfl⟩:∃k:Nat,e=k:=⟨e.toNat,om⟩;have hk:k<l.length:=om;have hi:=sA hk;have nv:e9 l (k:Int)=if l[k].ah≠4 then(([],lj,8):List Obj×bo×Int)else match l[k].ak with
   | []=>if l[k].aC<0\/l[k].aC>=l.length then([],lj,17)else match l[l[k].aC.toNat]? with
    |none=>([],lj,17)
    |some q=>if q.ah≠4 then([],lj,17)else([],lj,16)
   |x::r=>(l.set k {l[k]with ak:=r},x,0):=by
  rw[e9,if_neg om,Wk,hi]
 have hg:dg (l.map Obj.enc) (k:Nat)=some (l[k].enc):=by rw[bI,NO,hi];rfl
 have KV:=hf.2 _ (Wl hk);generalize l[k]=o at nv hg hi KV;obtain⟨ah,data,aj,target,aC,ak,aM,am,up⟩:=o;have hg:dg (l.map Obj.enc) (k:Nat)=some [.val (.int .i64 ah),.sl 1 data,.sl 2 aj,.val (.string target),.val (.int .i64 aC),.sl 4 (ak.map bo.enc),.val (.int .i64 aM),.val (.int .i64 am),.val (.int .i64 up)]:=hg;refine ag hg ?_;refine bt (fun h=>?_) (fun h3=>?_)
 .exact bad 8 (by rw[nv,if_pos h])
 have h3:ah=4:=h3;rw[if_neg (by simpa using h3)]at nv
 simp only at nv;refine ag hg ?_;cases ak with
 |nil=>
  simp only at nv;refine ag hg ?_;refine aJ (fun h=>?_) (fun h4=>?_)
  .exact bad 17 (by rw[nv,if_pos (.inl h)])
  refine aJ (fun h=>?_) (fun h5=>?_)
  .exact bad 17 (by rw[nv,if_pos (.inr (by rw[<-Ho];exact h))])
  have h5:¬aC>=(l.length:Int):=by rw[<-Ho];exact h5
  have h4:¬aC<0:=h4;obtain⟨p,rfl⟩:∃p:Nat,aC=p:=⟨aC.toNat,om⟩;have hp:p<l.length:=om;have Nw:=sA hp;rw[if_neg om,Wk,Nw]at nv;simp only at nv;have yR:dg (l.map Obj.enc) (p:Nat)=some (l[p].enc):=by rw[bI,NO,Nw];rfl
  generalize l[p]=q at nv yR;have yR:dg (l.map Obj.enc) (p:Nat)=some [.val (.int .i64 q.ah),.sl 1 q.data,.sl 2 q.aj,.val (.string q.target),.val (.int .i64 q.aC),.sl 4 (q.ak.map bo.enc),.val (.int .i64 q.aM),.val (.int .i64 q.am),.val (.int .i64 q.up)]:=yR;refine ag yR ?_;refine bt (fun h=>?_) (fun h6=>?_)
  .exact bad 17 (by rw[nv,if_pos h])
  .exact bad 16 (by rw[nv,if_neg (by simpa using h6)])
 |cons x r=>
  simp only at nv;have IK:(x::r).length<=4194304:=KV.2.2.1;refine tQ l hf k ?_;rw[IH hi];have qF:dp (k:Int) (lenOf (dQ k 2 0 l).length 0 none)=some k:=bZ (by simp[lenOf,lg];omega)
  have mv:=zI (Q:=2) hi;refine ag qF ?_;refine ag mv ?_;refine ag qF ?_;refine ag mv ?_;refine OU x r (by simp at IK;omega) 2 rfl ?_
  refine ag qF ?_;refine ag mv ?_;refine⟨trivial,?_⟩;refine⟨tR (e9 l k),[],View.o 4 [] [1,2] ?_ (.nil _),rfl,rfl⟩;rw[nv];refine .put (XW (.one (.eZ ?_)) (R3 x)) .nil;exact Ej (p:=k) (Q:=2) (l:=l) (q:=⟨ah,data,aj,target,aC,r,aM,am,up⟩) (c:= .row 2 4 0 (some r.length)) rfl (by rw[<-aU];rfl) (OV (x:=x) rfl (by rw[<-aU];rfl))
theorem LH(l:List Obj)(hf:jV l)(e:Int){m:Mem}{K:CV->Mem->Prop}(h:K (tR (e9 l e)) m):aq Tryz.prog 75 [cq l,an .i64 e] m K:=by
 refine aY (K0:=fun r m=>r=tR (e9 l e)/\m=[]) (bK (aX Tryz.func75 l75 (qG l hf e)) fun r m1⟨r',m',hv,hp⟩=>⟨r',m',hv,hp⟩) (by simp[cq,an,CV.c6,CC.c6,RV.c6]) fun r m1 hr=>?_
 obtain⟨rfl,rfl⟩:=hr;exact⟨_,cw.self rfl,h⟩
def fB(l:List Int):List (List Dt):=l.map fun b=>[.val (.int .u8 b)]
theorem zJ{m:Mem}{id:Nat}{b:Bk}:cU m [id] [b]=aZ m id b:=by simp only[cU,cf,abi]
theorem lm:∀b:List Int,nK ((fB b).map fun ds=>ds.map .aa)=some b
 | []=>rfl
 |x::r=>by have:=lm r;simp only[fB,aar,abE]at this⊢;simp only[nK,this]
def fw(e:ByteArray×Int):List Dt:=[.val (.string e.1),.val (.int .i64 e.2)]
def bo.Ny(q:bo):Prop:=∃b:List Int,q.data=fB b
def Obj.Ny(o:Obj):Prop:=(∃b:List Int,o.data=fB b)/\(∃es:List (ByteArray×Int),o.aj=es.map fw)/\∀q,q∈o.ak->q.Ny
theorem LI{l:List Obj}{k:Nat}(h:k<l.length):dg (l.map Obj.enc) (k:Nat)=some [.val (.int .i64 l[k].ah),.sl 1 l[k].data,.sl 2 l[k].aj,.val (.string l[k].target),.val (.int .i64 l[k].aC),.sl 4 (l[k].ak.map bo.enc),.val (.int .i64 l[k].aM),.val (.int .i64 l[k].am),.val (.int .i64 l[k].up)]:=by rw[bI,NO,sA h];rfl
inductive nT(σ:Nat->Nat)(m:Mem)(Z:Nat->Prop):List CC->List CC->Prop
 |nil:nT σ m Z [] []
 |cons {c c':CC} {r r':List CC} (h:oQ σ m Z none c c') (hr:nT σ m Z r r'):nT σ m Z (c::r) (c'::r')
theorem nT.len{σ:Nat->Nat}{m:Mem}{Z:Nat->Prop}{cs ef:List CC}(h:nT σ m Z cs ef):cs.length=ef.length:=by
 induction h<;>simp[*]
theorem nT.get{σ:Nat->Nat}{m:Mem}{Z:Nat->Prop}{cs ef:List CC}(h:nT σ m Z cs ef):∀(i:Nat)c c',cs[i]? =some c->ef[i]? =some c'->oQ σ m Z none c c':=by
 induction h with
 |nil=>intro i c c' h;simp at h
 |cons h hr ih=>
  intro i c c' h1 h2;cases i with
  |zero=>simp at h1 h2;subst h1 h2;exact h
  |succ i=>exact ih i c c' (by simpa using h1) (by simpa using h2)
theorem nT.agg{σ:Nat->Nat}{m:Mem}{Z:Nat->Prop}{cs ef:List CC}(h:nT σ m Z cs ef):po σ m Z (.rv (.agg cs)) (.rv (.agg ef)):= .rv (.agg h.len h.get)
structure Obj.sm(o:Obj):Prop where
 t:o.Ny
 d:o.data.length<=64
 e:o.aj.length<=8
 q:o.ak.length<=8
 qd:∀q,q∈o.ak->q.data.length<=64
theorem Obj.sm.mz{o:Obj}(h:o.sm):o.mz:=⟨by have:=h.d;omega,by have:=h.e;omega,by have:=h.q;omega,fun q hq=>by have:=h.qd q hq;omega⟩
theorem LJ{es:List (ByteArray×Int)}{k:Nat}(h:k<es.length):dg (es.map fw) (k:Nat)=some [.val (.string es[k].1),.val (.int .i64 es[k].2)]:=by rw[bI,NO,sA h];rfl
structure fq where
 has:Bool
 eE:Int
 cn:Int
def fq.enc(s:fq):List Dt:=[.val (.bool s.has),.val (.int .i64 s.eE),.val (.int .i64 s.cn)]
def vp(l:List fq):Dt:= .sl 3 (l.map fq.enc)
def IL(l:List fq):RV:= .one (.aa (vp l))
def lL(l:List fq):CV:= .rv (.one (.aa (vp l)))
theorem bC{α:Type}(f:α->List Dt)(l:List α){k:Nat}(h:k<l.length):cR (af (l.map f)) k=some ((f l[k]).map .aa):=by rw[aU,af,NO,NO,sA h];rfl
theorem lM{α:Type}(f:α->List Dt)(l:List α)(k:Nat)(x:α):aZ (af (l.map f)) k ((f x).map .aa)=af ((l.set k x).map f):=by rw[bg,af,af,aay,aay]
theorem mT:∀a:List UInt8,Op.bytesLess a a=false
 | []=>rfl
 |x::r=>by simp[Op.bytesLess,mT r]
theorem pA:∀{a b c:List UInt8},Op.bytesLess a b=true->Op.bytesLess b c=true->Op.bytesLess a c=true
 |a,[],_,h,_=>by cases a<;>simp[Op.bytesLess]at h
 |_,_::_,[],_,h=>by simp[Op.bytesLess]at h
 | [],_::_,_::_,_,_=>rfl
 |x::a,y::b,z::c,h1,h2=>by
  simp only[Op.bytesLess,aaX,SD,decide_eq_true_eq,beq_iff_eq]at h1 h2⊢;rcases h1 with h1|⟨rfl,h1⟩
  .rcases h2 with h2|⟨rfl,h2⟩
   .exact .inl (UInt8.lt_trans h1 h2)
   .exact .inl h1
  .rcases h2 with h2|⟨rfl,h2⟩
   .exact .inl h2
   .exact .inr ⟨rfl,pA h1 h2⟩
theorem IM:∀a b:List UInt8,Op.bytesLess a b=true\/a=b\/Op.bytesLess b a=true
 | [],[]=>.inr (.inl rfl)
 | [],_::_=>.inl rfl
 |_::_,[]=>.inr (.inr rfl)
 |x::a,y::b=>by
  simp only[Op.bytesLess,aaX,SD,decide_eq_true_eq,beq_iff_eq,List.cons.injEq];by_cases h:x<y
  .exact .inl (.inl h)
  .by_cases h2:y<x
   .exact .inr (.inr (.inl h2))
   .have e:x=y:=by have h3:¬x.toNat<y.toNat:=h;have h4:¬y.toNat<x.toNat:=h2;exact UInt8.toNat_inj.1 om
    subst e;rcases IM a b with h5|h5|h5
    .exact .inl (.inr ⟨rfl,h5⟩)
    .exact .inr (.inl ⟨rfl,h5⟩)
    .exact .inr (.inr (.inr ⟨rfl,h5⟩))
abbrev NE:=ByteArray×Int
def xJ(a b:ByteArray):Prop:=Op.bytesLess a.toList b.toList=true
def B9(es:List NE):Prop:=es.Pairwise fun a b=>xJ a.1 b.1
def Ca(a b:ByteArray):Bool:= !(Op.bytesLess a.toList b.toList||a.toList==b.toList)
theorem R5{a b:ByteArray}(h:Ca a b=true):xJ b a:=by
 unfold Ca at h;simp only[aaT,Bool.or_eq_false_iff,beq_eq_false_iff_ne]at h;rcases IM a.toList b.toList with h1|h1|h1
 .rw[h.1]at h1;cases h1
 .exact absurd h1 h.2
 .exact h1
theorem OW{a b:ByteArray}(h:Ca a b=false)(eG:a.toList≠b.toList):xJ a b:=by unfold Ca at h;simp only[Bool.not_eq_false',aaX,beq_iff_eq]at h;exact h.elim id fun h=>absurd h eG
structure IN(es:List NE)(x:NE)(k:Nat)(d:Bool)(d7:List NE):Prop where
 f:d=false->d7=es.take k/\∀(j:Nat)e,j<k->es[j]? =some e->Ca e.1 x.1=false
 t:d=true->∃i,i<k/\d7=es.take i++x::(es.take k).drop i/\(∀(j:Nat)e,j<i->es[j]? =some e->Ca e.1 x.1=false)/\∃e,es[i]? =some e/\Ca e.1 x.1=true
theorem FV{es:List NE}{k:Nat}(h:k<es.length):es.take (k+1)=es.take k++ [es[k]]:=by rw[aaM,sA h];rfl
theorem IN.yG{es:List NE}{x:NE}{k:Nat}{d7:List NE}(h:IN es x k false d7)(hk:k<es.length)(hg:Ca es[k].1 x.1=true):IN es x (k+1) true (d7++ [x,es[k]]):=by
 obtain⟨h1,h2⟩:=h.f rfl;refine⟨fun h=>(by cases h),fun _=>⟨k,aa3 k,?_,h2,es[k],sA hk,hg⟩⟩
 rw[FV hk,h1,List.drop_left' (by simp;omega)]
def gN(x:NE):List NE->List NE
 | []=>[x]
 |e::r=>if Ca e.1 x.1=true then x::e::r else e::gN x r
theorem zK{x:NE}:∀{a b:List NE},(∀e,e∈a->Ca e.1 x.1=false)->gN x (a++b)=a++gN x b
 | [],_,_=>rfl
 |e::a,b,h=>by
  show gN x (e::(a++b))=_;rw[gN,if_neg (by rw[h e aI];simp),zK fun y hy=>h y (by simp[hy])]
  rfl
theorem LK{x e:NE}{r:List NE}(h:Ca e.1 x.1=true):gN x (e::r)=x::e::r:=by rw[gN,if_pos h]
theorem pB{x:NE}:∀{es:List NE}{e:NE},e∈gN x es->e∈es\/e=x
 | [],e,h=>by simp[gN]at h;exact .inr h
 |y::r,e,h=>by
  rw[gN]at h;split at h
  .rcases aaf.1 h with h|h
   .exact .inr h
   .exact .inl h
  .rcases aaf.1 h with h|h
   .exact .inl (by simp[h])
   .rcases pB h with h|h
    .exact .inl (by simp[h])
    .exact .inr h
theorem zL{x:NE}:∀es:List NE,(gN x es).length=es.length+1
 | []=>rfl
 |y::r=>by
  rw[gN];split
  .rfl
  .simp[zL r]
theorem IP{es:List NE}{x:NE}(hs:B9 es)(eG:∀e,e∈es->e.1.toList≠x.1.toList):B9 (gN x es):=by
 induction es with
 |nil=>exact abq.2 ⟨aI,List.Pairwise.nil⟩
 |cons e r ih=>
  obtain⟨h1,h2⟩:=abq.1 hs;rw[gN];split
  .rename_i hg;have hx:=R5 hg;refine abq.2 ⟨fun y hy=>?_,hs⟩
   rcases aaf.1 hy with rfl|hy
   .exact hx
   .exact pA hx (h1 y hy)
  .rename_i hg;rw[abm]at hg;refine abq.2 ⟨fun y hy=>?_,ih h2 fun y hy=>eG y (by simp[hy])⟩
   rcases pB hy with hy|rfl
   .exact h1 y hy
   .exact OW hg (eG e aI)
def xK(es:List NE)(name:ByteArray)(n:Int):Prop:=(∃e,e∈es/\e.1.toList=name.toList/\n=e.2)\/(n= -1/\∀e,e∈es->e.1.toList≠name.toList)
def dG(es:List NE)(name:ByteArray):Int:=match es.find? (fun e=>decide (e.1.toList=name.toList))with
 |some e=>e.2
 |none=>-1
theorem tS{es:List NE}(hs:B9 es){a b:NE}(ha:a∈es)(hb:b∈es)(h:a.1.toList=b.1.toList):a=b:=by
 obtain⟨i,hi⟩:=Un ha;obtain⟨j,hj⟩:=Un hb;obtain⟨M8,d5⟩:=Gf.1 hi;obtain⟨yJ,jm⟩:=Gf.1 hj;have hp:=aa1.1 hs;rcases abI i j with h3|h3|h3
 .have:=hp i j M8 yJ h3;rw[d5,jm,xJ,h,mT]at this;cases this
 .subst h3;rw[hi]at hj;cases hj;rfl
 .have:=hp j i yJ M8 h3;rw[d5,jm,xJ,h,mT]at this;cases this
theorem iA(es:List NE)(name:ByteArray):xK es name (dG es name):=by
 unfold dG;cases h:es.find? (fun e=>decide (e.1.toList=name.toList))with
 |some e=>
  have h1:=List.find?_some h;exact .inl ⟨e,List.mem_of_find?_eq_some h,by simpa using h1,rfl⟩
 |none=>exact .inr ⟨rfl,fun e he=>by simpa using abZ.1 h e he⟩
theorem rX{es:List NE}(hs:B9 es){name:ByteArray}{n k:Int}(h:xK es name n)(h2:xK es name k):n=k:=by
 rcases h with⟨e,he,h3,rfl⟩|⟨rfl,h3⟩
 .rcases h2 with⟨e',rz,h4,rfl⟩|⟨rfl,h4⟩
  .rw[tS hs he rz (h3.trans h4.symm)]
  .exact absurd h3 (h4 e he)
 .rcases h2 with⟨e',rz,h4,rfl⟩|⟨rfl,h4⟩
  .exact absurd h4 (h3 e' rz)
  .rfl
def ZG:Dt:= .val (.slice none 0 0)
structure Ob where
 ah:Int
 data:List (List Dt)
 aj:List (List Dt)
 target:ByteArray
 aC:Int
 ak:Dt
 aM:Int
 am:Int
 up:Int
def Ob.enc(o:Ob):List Dt:=[.val (.int .i64 o.ah),.sl 1 o.data,.sl 2 o.aj,.val (.string o.target),.val (.int .i64 o.aC),o.ak,.val (.int .i64 o.aM),.val (.int .i64 o.am),.val (.int .i64 o.up)]
def LL(l:List Ob):Dt:= .sl 9 (l.map Ob.enc)
def xL(l:List Ob):CV:= .rv (.one (.aa (LL l)))
def lN(l:List Ob)(k ah:Int):Bool:=decide (k>=0)&&(decide (k<l.length)&&match l[k.toNat]? with|none=>false|some o=>o.ah !=0&&(ah==0||o.ah==ah))
theorem ln{l:List Ob}{k:Nat}(h:k<l.length):dg (l.map Ob.enc) (k:Nat)=some [.val (.int .i64 l[k].ah),.sl 1 l[k].data,.sl 2 l[k].aj,.val (.string l[k].target),.val (.int .i64 l[k].aC),l[k].ak,.val (.int .i64 l[k].aM),.val (.int .i64 l[k].am),.val (.int .i64 l[k].up)]:=by rw[bI,NO,sA h];rfl
theorem IQ{l:List Ob}{k:Int}(h:lN l k 0=true):∃n:Nat,k=n/\n<l.length:=by
 unfold lN at h;by_cases h0:k>=0
 .obtain⟨n,rfl⟩:∃n:Nat,k=n:=⟨k.toNat,om⟩;by_cases hn:n<l.length
  .exact⟨n,rfl,hn⟩
  .simp[hn]at h
 .simp[h0]at h
structure R6(n:Nat)(ah:Int)(aj:List (List Dt)):Prop where
 ex:∃es:List NE,aj=es.map fw/\B9 es/\(∀e,e∈es->0<=e.2/\e.2<(n:Int))/\(ah≠2->es=[])
def ma:List Dt->NE
 | [.val (.string s),.val (.int .i64 n)]=>(s,n)
 |_=>(⟨#[]⟩,0)
theorem lO:∀es:List NE,(es.map fw).map ma=es
 | []=>rfl
 |e::r=>by show(ma (fw e))::((r.map fw).map ma)=_;rw[lO r];rfl
def R7:LC->LC
 | .seq a _=>a
 |x=>x
def bH:LC->LC
 | .seq _ b=>b
 |x=>x
def ov:LC->LC
 | .cI a=>a
 |x=>x
structure bD where
 br:Int
 cT:Int
def bD.enc(o:bD):List Dt:=[.val (.int .i64 o.br),.val (.int .i64 o.cT)]
structure bj where
 a7:Bool
 fenced:Bool
 code:Int
 bd:List fq
def bj.enc(p:bj):List Dt:=[.val (.bool p.a7),.val (.bool p.fenced),.val (.int .i64 p.code),vp p.bd]
def eB(l:List bD):Dt:= .sl 2 (l.map bD.enc)
def fE(l:List bj):Dt:= .sl 4 (l.map bj.enc)
def dR(l:List Obj)(op:List bD)(ps:List bj):CV:= .rv (.agg [.aa (c7 l),.aa (eB op),.aa (fE ps)])
inductive eC(σ:Nat->Nat)(m:Mem)(Z:Nat->Prop)(p:Option Nat):List CC->List CC->Prop
 |nil:eC σ m Z p [] []
 |cons {c c':CC} {r r':List CC} (h:oQ σ m Z p c c') (hr:eC σ m Z p r r'):eC σ m Z p (c::r) (c'::r')
theorem eC.get{σ:Nat->Nat}{m:Mem}{Z:Nat->Prop}{p:Option Nat}{cs ef:List CC}(h:eC σ m Z p cs ef):∀(i:Nat)c',ef[i]? =some c'->∃c,cs[i]? =some c/\oQ σ m Z p c c':=by
 induction h with
 |nil=>intro i c' h;simp at h
 |cons h hr ih=>
  intro i c' h2;cases i with
  |zero=>simp at h2;subst h2;exact⟨_,rfl,h⟩
  |succ i=>simpa using ih i c' (by simpa using h2)
theorem eC.var{σ:Nat->Nat}{m:Mem}{Z:Nat->Prop}{id:Nat}{cs ef:List CC}(h:eC σ m Z (some id) cs ef):lA σ m Z id (.var cs) (.var ef):= .var h.get
def z3:List CC:=[.aB,.aB,.aB]
theorem bb(ds:List (List Dt)):(af ds).length=ds.length:=by simp[af]
theorem db(σ:Nat->Nat)(ds:List (List Dt)):(af ds).map (fun cs=>cs.map (CC.aQ σ))=af ds:=by simp[af,abJ,CC.aQ]
theorem R9{σ:Nat->Nat}{m:Mem}{Z:Nat->Prop}{id:Nat}(l:List bj)(p:bj){c:CC}{X:List (List CC)}(hc:oQ σ m Z (some id) c (.aa (vp p.bd)))(hX:X=af (l.map bj.enc)++ [[.aa (.val (.bool p.a7)),.aa (.val (.bool p.fenced)),.aa (.val (.int .i64 p.code)),c]]):lA σ m Z id (.row 4 X) (.row 4 (af ((l++ [p]).map bj.enc))):=by
 subst hX;have e:af ((l++ [p]).map bj.enc)=af (l.map bj.enc)++ [p.enc.map .aa]:=by simp[af]
 rw[e];refine .B6 (db σ _) rfl fun j c1 c2 h1 h2=>?_
 match j,h1,h2 with
 |0,h1,h2=>cases h1;cases h2;exact .aQ (.aa _)
 |1,h1,h2=>cases h1;cases h2;exact .aQ (.aa _)
 |2,h1,h2=>cases h1;cases h2;exact .aQ (.aa _)
 |3,h1,h2=>cases h1;cases h2;exact hc
 |n+4,h1,h2=>simp at h1
structure Mk where
 O:List Bool
 P:List Bool
def dt(L:List Bool)(i:Nat):Prop:=L[i]? =some true
def vO(l:List Obj)(z:Int)(i:Nat):Prop:=z=i/\∃o,l[i]? =some o/\o.ah≠0
def vP(ops:List bD)(z:Int)(c:Nat):Prop:=z=c/\c<ops.length
def sE(o:Obj)(z:Int):Prop:=∃nm:ByteArray,fw (nm,z)∈o.aj
def sQ(o:Obj)(z:Int):Prop:=∃q,q∈o.ak/\q.has=true/\q.eE=z
structure Step(l:List Obj)(ops:List bD)(E:Nat->Prop)(a b:Mk):Prop where
 lo:b.O.length=a.O.length
 lp:b.P.length=a.P.length
 mo:∀i,dt a.O i->dt b.O i
 mp:∀c,dt a.P c->dt b.P c
 co:∀i o,dt b.O i->¬dt a.O i->¬E i->l[i]? =some o->(∀z n,sE o z->vO l z n->dt b.O n)/\(∀z c,sQ o z->vP ops z c->dt b.P c)
 cp:∀c o,dt b.P c->¬dt a.P c->ops[c]? =some o->∀n,vO l o.br n->dt b.O n
structure Cl(l:List Obj)(ops:List bD)(RO RP:Nat->Prop):Prop where
 e:∀i o,RO i->l[i]? =some o->∀z n,sE o z->vO l z n->RO n
 q:∀i o,RO i->l[i]? =some o->∀z c,sQ o z->vP ops z c->RP c
 p:∀c o,RP c->ops[c]? =some o->∀n,vO l o.br n->RO n
def KY(RO RP:Nat->Prop)(a:Mk):Prop:=(∀i,dt a.O i->RO i)/\(∀c,dt a.P c->RP c)
def dE(L:List Bool):Nat:=(L.filter (fun b=>!b)).length
def Mk.mu(a:Mk):Nat:=dE a.O+dE a.P
theorem Step.refl{l:List Obj}{ops:List bD}{E:Nat->Prop}(a:Mk):Step l ops E a a:=
 ⟨rfl,rfl,fun _ h=>h,fun _ h=>h,fun _ _ h h2=>absurd h h2,fun _ _ h h2=>absurd h h2⟩
theorem Step.trans{l:List Obj}{ops:List bD}{E:Nat->Prop}{a b c:Mk}(h1:Step l ops E a b)(h2:Step l ops (fun _=>False) b c):Step l ops E a c:=by
 refine⟨h2.lo.trans h1.lo,h2.lp.trans h1.lp,fun i h=>h2.mo i (h1.mo i h),fun i h=>h2.mp i (h1.mp i h),fun i o hi hn hE ho=>?_,fun i o hi hn ho n hv=>?_⟩
 .by_cases hb:dt b.O i
  .obtain⟨k1,k2⟩:=h1.co i o hb hn hE ho;exact⟨fun z n hz hv=>h2.mo n (k1 z n hz hv),fun z c hz hv=>h2.mp c (k2 z c hz hv)⟩
  .exact h2.co i o hi hb (fun h=>h) ho
 .by_cases hb:dt b.P i
  .exact h2.mo n (h1.cp i o hb hn ho n hv)
  .exact h2.cp i o hi hb ho n hv
theorem jq:∀(a b:List Bool),b.length=a.length->(∀i,dt a i->dt b i)->dE b<=dE a
 | [],[],_,_=>Pq _
 | [],_::_,h,_=>by simp at h
 |_::_,[],h,_=>by simp at h
 |x::a,y::b,h,hm=>by
  have ih:=jq a b (by simpa using h) (fun i hi=>by simpa[dt]using hm (i+1) (by simpa[dt]using hi))
  have h0:x=true->y=true:=fun hx=>by simpa[dt]using hm 0 (by simp[dt,hx])
  unfold dE at ih⊢;cases x<;>cases y<;>simp at h0⊢<;>omega
theorem ow:∀(a:List Bool)(n:Nat),a[n]? =some false->dE (a.set n true)+1=dE a
 | [],n,h=>by simp at h
 |x::a,0,h=>by simp at h;subst h;simp[dE]
 |x::a,n+1,h=>by
  have ih:=ow a n (by simpa using h)
  unfold dE at ih⊢;cases x<;>simp at ih⊢<;>omega
theorem El{L:List Bool}{n i:Nat}(h:dt L i):dt (L.set n true) i:=by
 unfold dt at h⊢;rw[aan];split
 .rename_i e;subst e;have:=(Gf.1 h).1;simp[this]
 .exact h
theorem pC{L:List Bool}{n:Nat}(h:n<L.length):dt (L.set n true) n:=by unfold dt;simp[h]
theorem jC{L:List Bool}{n i:Nat}(h:dt (L.set n true) i):dt L i\/i=n:=by
 unfold dt at h⊢;rw[aan]at h;split at h
 .rename_i e;exact .inr e.symm
 .exact .inl h
structure PO(l:List Obj)(ops:List bD)(z:Int)(a b:Mk):Prop where
 st:Step l ops (fun _=>False) a b
 on:∀n,vO l z n->dt b.O n
 sd:∀RO RP,Cl l ops RO RP->KY RO RP a->(∀n,vO l z n->RO n)->KY RO RP b
structure PP(l:List Obj)(ops:List bD)(z:Int)(a b:Mk):Prop where
 st:Step l ops (fun _=>False) a b
 on:∀c,vP ops z c->dt b.P c
 sd:∀RO RP,Cl l ops RO RP->KY RO RP a->(∀c,vP ops z c->RP c)->KY RO RP b
theorem PO.none{l:List Obj}{ops:List bD}{z:Int}{a:Mk}(h:∀n,vO l z n->dt a.O n):PO l ops z a a:=⟨.refl a,h,fun _ _ _ h _=>h⟩
theorem PP.none{l:List Obj}{ops:List bD}{z:Int}{a:Mk}(h:∀n,vP ops z n->dt a.P n):PP l ops z a a:=⟨.refl a,h,fun _ _ _ h _=>h⟩
structure wn(l:List Obj)(ops:List bD)(n:Nat)(a b:Mk)(nE nQ:Nat)(es:List (ByteArray×Int))(qs:List bo):Prop where
 st:Step l ops (fun i=>i=n) a b
 on:dt b.O n
 e:∀j e,j<nE->es[j]? =some e->∀m,vO l e.2 m->dt b.O m
 q:∀j q,j<nQ->qs[j]? =some q->q.has=true->∀c,vP ops q.eE c->dt b.P c
 sd:∀RO RP,Cl l ops RO RP->KY RO RP a->RO n->KY RO RP b
theorem wn.start{l:List Obj}{ops:List bD}{n:Nat}{a:Mk}(hn:n<a.O.length)(es:List (ByteArray×Int))(qs:List bo):wn l ops n a ⟨a.O.set n true,a.P⟩ 0 0 es qs:=by
 refine⟨⟨aI,rfl,fun i h=>El h,fun i h=>h,fun i o h h2 h3=>?_,fun _ _ h h2=>absurd h h2⟩,pC hn,fun j e h=>absurd h (aah j),fun j e h=>absurd h (aah j),fun RO RP _ h hr=>⟨fun i hi=>?_,h.2⟩⟩
 .rcases jC h with h|h
  .exact absurd h h2
  .exact absurd h h3
 .rcases jC hi with hi|rfl
  .exact h.1 i hi
  .exact hr
theorem wn.Sa{l:List Obj}{ops:List bD}{n:Nat}{a b c:Mk}{j:Nat}{es:List (ByteArray×Int)}{qs:List bo}(h:wn l ops n a b j 0 es qs){e:ByteArray×Int}(he:es[j]? =some e)(hc:PO l ops e.2 b c){o:Obj}(ho:l[n]? =some o)(nD:o.aj=es.map fw):wn l ops n a c (j+1) 0 es qs:=by
 have ZH:sE o e.2:=⟨e.1,by rw[nD];exact List.mem_map_of_mem (NQ he)⟩
 refine⟨h.st.trans hc.st,hc.st.mo n h.on,fun i x hi hx m hv=>?_,fun i x hi=>absurd hi (aah i),fun RO RP gT jx hr=>hc.sd RO RP gT (h.sd RO RP gT jx hr) fun m hv=>gT.e n o hr ho e.2 m ZH hv⟩
 rcases Wj i j with o8|o8
 .exact hc.st.mo m (h.e i x o8 hx m hv)
 .have:i=j:=om;subst this;rw[he]at hx;cases hx;exact hc.on m hv
theorem wn.Sb{l:List Obj}{ops:List bD}{n:Nat}{a b c:Mk}{k j:Nat}{es:List (ByteArray×Int)}{qs:List bo}(h:wn l ops n a b k j es qs){q:bo}(hq:qs[j]? =some q)(hh:q.has=true)(hc:PP l ops q.eE b c){o:Obj}(ho:l[n]? =some o)(VI:o.ak=qs):wn l ops n a c k (j+1) es qs:=by
 have ZI:sQ o q.eE:=⟨q,by rw[VI];exact NQ hq,hh,rfl⟩
 refine⟨h.st.trans hc.st,hc.st.mo n h.on,fun i x hi hx m hv=>hc.st.mo m (h.e i x hi hx m hv),fun i x hi hx Sc m hv=>?_,fun RO RP gT jx hr=>hc.sd RO RP gT (h.sd RO RP gT jx hr) fun m hv=>gT.q n o hr ho q.eE m ZI hv⟩
 rcases Wj i j with o8|o8
 .exact hc.st.mp m (h.q i x o8 hx Sc m hv)
 .have:i=j:=om;subst this;rw[hq]at hx;cases hx;exact hc.on m hv
theorem wn.Sd{l:List Obj}{ops:List bD}{n:Nat}{a b:Mk}{k j:Nat}{es:List (ByteArray×Int)}{qs:List bo}(h:wn l ops n a b k j es qs){q:bo}(hq:qs[j]? =some q)(hh:q.has=false):wn l ops n a b k (j+1) es qs:=by
 refine⟨h.st,h.on,h.e,fun i x hi hx Sc m hv=>?_,h.sd⟩
 rcases Wj i j with o8|o8
 .exact h.q i x o8 hx Sc m hv
 .have:i=j:=om;subst this;rw[hq]at hx;cases hx;rw[hh]at Sc;cases Sc
theorem wn.iu{l:List Obj}{ops:List bD}{n:Nat}{a b:Mk}{es:List (ByteArray×Int)}{qs:List bo}(h:wn l ops n a b es.length qs.length es qs){o:Obj}(ho:l[n]? =some o)(hk:o.ah≠0)(nD:o.aj=es.map fw)(VI:o.ak=qs):PO l ops (n:Int) a b:=by
 refine⟨⟨h.st.lo,h.st.lp,h.st.mo,h.st.mp,fun i x hi Lp _ hx=>?_,h.st.cp⟩,fun m hv=>?_,fun RO RP gT jx hr=>h.sd RO RP gT jx (hr n ⟨rfl,o,ho,hk⟩)⟩
 .by_cases jx:i=n
  .subst jx;rw[ho]at hx;cases hx;refine⟨fun z m⟨nm,hm⟩hv=>?_,fun z c⟨q,hq,hh,hz⟩hv=>?_⟩
   .rw[nD]at hm;obtain⟨e,he,mC⟩:=Z5.1 hm;have:e.2=z:=by simp[fw]at mC;exact mC.2
    subst this;obtain⟨j,hj⟩:=Un he;exact h.e j e (Gf.1 hj).1 hj m hv
   .rw[VI]at hq;obtain⟨j,hj⟩:=Un hq;subst hz;exact h.q j q (Gf.1 hj).1 hj hh c hv
  .exact h.st.co i x hi Lp jx hx
 .have:m=n:=by have:=hv.1;omega
  subst this;exact h.on
theorem PP.of{l:List Obj}{ops:List bD}{a b:Mk}{c:Nat}(hc:c<a.P.length){o:bD}(ho:ops[c]? =some o)(h:PO l ops o.br ⟨a.O,a.P.set c true⟩ b):PP l ops (c:Int) a b:=by
 have yI:Step l ops (fun _=>False) a b:=by
  refine⟨h.st.lo,by have:=h.st.lp;simpa using this,h.st.mo,fun i hi=>h.st.mp i (El hi),fun i x hi Lp=>h.st.co i x hi Lp,fun i x hi Lp hx n hv=>?_⟩
  by_cases XX:i=c
  .subst XX;rw[ho]at hx;cases hx;exact h.on n hv
  .exact h.st.cp i x hi (fun hs=>(jC hs).elim Lp XX) hx n hv
 refine⟨yI,fun d hd=>?_,fun RO RP gT jx hr=>?_⟩
 .have:d=c:=by have:=hd.1;omega
  subst this;exact h.st.mp d (pC hc)
 .have XY:RP c:=hr c ⟨rfl,(Gf.1 ho).1⟩;exact h.sd RO RP gT ⟨jx.1,fun i hi=>(jC hi).elim (jx.2 i) fun e=>e▸XY⟩ fun n hv=>gT.p c o XY ho n hv
def c142:LF:= ⟨88,[],(.seq (.seq (.ai [qm 9 1,qu 10 (.aH .lss 9 (qi 0)),qm 11 10,qg 12 (.aF 1) 11 false,qg 13 (.aF 0) 11 false,qg 14 (.aT 13) 11 false,qg 15 (.bX 1 14) 11 false,qg 16 (.load false 1 15) 11 false,qg 17 (.len 1 16) 11 false,qg 18 (.aH .geq 12 17) 11 false,qu 19 (.pick 11 (qb true) 18),qm 20 19,qg 21 (.aF 0) 20 false,qg 22 (.aT 21) 20 false,qg 23 (.bX 1 22) 20 false,qg 24 (.load false 1 23) 20 false,qg 25 (.aF 1) 20 false,qg 26 (.cr 1 24 25) 20 false,qg 27 (.load false 1 26) 20 false,qu 28 (.pick 20 (qb true) 27),qm 29 28,qg 30 (.aF 0) 29 false,qg 31 (.aT 30) 29 false,qg 32 (.bX 0 31) 29 false,qg 33 (.load false 1 32) 29 false,qg 34 (.aT 33) 29 false,qg 35 (.bX 0 34) 29 false,qg 36 (.load false 1 35) 29 false,qg 37 (.aF 1) 29 false,qg 38 (.cr 9 36 37) 29 false,qg 39 (.bX 0 38) 29 false,qg 40 (.load false 1 39) 29 false,qg 41 (.aH .eql 40 (qi 0)) 29 false,qu 42 (.pick 29 (qb true) 41)]) (.cond 42 .ret .skip)) (.seq (.ai [qm 43 0,qu 44 (.aT 43),qf 45 1 44,ql 46 45,qm 47 1,qu 48 (.cr 1 46 47),qw (.store 1 48 (qb true))]) (.seq (.ai [qm 49 0,qu 50 (.aT 49),qf 51 0 50,ql 52 51,qu 53 (.aT 52),qf 54 0 53,ql 55 54,qm 56 1,qu 57 (.cr 9 55 56),qm 4 57]) (.seq (.seq (.ai [qm 58 4,qu 59 (.aT 58),qf 60 2 59,ql 61 60,qu 62 (.len 1 61),qu 63 (.aF (qi 0))]) (.block 0 (.loop (.seq (.ai [qu 64 (.aH .lss 63 62)]) (.seq (.cond 64 .skip (.exit 0)) (.seq (.block 1 (.seq (.ai [qu 65 (.cr 2 61 63),qL 66 2 65,qu 6 (.alloc [(.aa (.val (.string ⟨#[]⟩))),(qd 0)]),qw (.store 2 6 66)]) (.ai [qm 67 0,qf 68 1 6,ql 69 68,qu 70 (qc 142 [67,69])]))) (.ai [qu 71 (.aH .add 63 (qi 1)),qm 63 71]))))))) (.seq (.ai [qm 72 4,qu 73 (.aT 72),qf 74 5 73,ql 75 74,qu 76 (.len 1 75),qu 77 (.aF (qi 0))]) (.block 2 (.loop (.seq (.ai [qu 78 (.aH .lss 77 76)]) (.seq (.cond 78 .skip (.exit 2)) (.seq (.block 3 (.seq (.ai [qu 79 (.cr 4 75 77),qL 80 4 79,qu 8 (.alloc [.aB,(.aa (.val (.bool false))),(qd 0),(qd 0)]),qw (.store 4 8 80)]) (.seq (.ai [qf 81 1 8,ql 82 81]) (.cond 82 (.ai [qm 83 0,qf 84 2 8,qL 85 2 84,qu 86 (qc 143 [83,85])]) .skip)))) (.ai [qu 87 (.aH .add 77 (qi 1)),qm 77 87])))))))))))⟩
def c143:LF:= ⟨48,[],(.seq (.ai [qu 3 (.box 1)]) (.seq (.seq (.bU [qf 4 0 3,ql 5 4,qu 6 (.aH .lss 5 (qi 0)),qm 7 6,qg 8 (.bX 0 3) 7 false,qg 9 (.load false 1 8) 7 false,qg 10 (.aF 0) 7 false,qg 11 (.aT 10) 7 false,qg 12 (.bX 2 11) 7 false,qg 13 (.load false 1 12) 7 false,qg 14 (.len 1 13) 7 false,qg 15 (.aH .geq 9 14) 7 false,qu 16 (.pick 7 (qb true) 15),qm 17 16,qg 18 (.aF 0) 17 false,qg 19 (.aT 18) 17 false,qg 20 (.bX 2 19) 17 false,qg 21 (.load false 1 20) 17 false,qg 22 (.bX 0 3) 17 false,qg 23 (.load false 1 22) 17 false,qg 24 (.cr 1 21 23) 17 false,qg 25 (.load false 1 24) 17 false,qu 26 (.pick 17 (qb true) 25)] [(.cons 0 none (.cons 1 none (.cons 2 none (.cons 3 none (.cons 4 none (.cons 5 none (.cons 6 none (.cons 7 none (.cons 8 none (.cons 9 none (.cons 10 none (.cons 11 none (.cons 12 none (.cons 13 none (.cons 14 none (.cons 15 none (.cons 16 none (.cons 17 none (.cons 18 none (.cons 19 none (.cons 20 none (.cons 21 none (.cons 22 none .nil)))))))))))))))))))))))]) (.cond 26 .ret .skip)) (.seq (.bU [qm 27 0,qu 28 (.aT 27),qf 29 2 28,ql 30 29,qf 31 0 3,ql 32 31,qu 33 (.cr 1 30 32),qw (.store 1 33 (qb true))] [(.cons 0 none (.cons 1 none (.cons 2 none (.cons 3 none (.cons 4 none (.cons 5 none (.cons 6 none (.cons 7 (some []) .nil))))))))]) (.bU [qm 34 0,qm 35 0,qu 36 (.aT 35),qf 37 0 36,ql 38 37,qu 39 (.aT 38),qf 40 1 39,ql 41 40,qf 42 0 3,ql 43 42,qu 44 (.cr 2 41 43),qf 45 0 44,ql 46 45,qu 47 (qc 142 [34,46])] [(.cons 0 none (.cons 1 none (.cons 2 none (.cons 3 none (.cons 4 none (.cons 5 none (.cons 6 none (.cons 7 none (.cons 8 none (.cons 9 none (.cons 10 none (.cons 11 none (.cons 12 none (.cons 13 (some []) .nil))))))))))))))]))))⟩
def bE(b:Bool):List Dt:=[.val (.bool b)]
theorem l142:bs Tryz.prog Tryz.f142=some c142:=by kernel_rfl
theorem l143:bs Tryz.prog Tryz.f143=some c143:=by kernel_rfl
def vq(l:List Obj)(ops:List bD)(a:Mk):Prop:=a.O.length=l.length/\a.P.length=ops.length
theorem qH{L:List Bool}{n:Nat}(h:n<L.length):cR (af (L.map bE)) n=some [.aa (.val (.bool L[n]))]:=bC bE L h
theorem wo{L:List Bool}{n:Nat}(h:n<L.length):dp (n:Int) (lenOf (af (L.map bE)).length 0 none)=some n:=bZ (by show n<(af (L.map bE)).length;rw[bb,KB];exact h)
theorem IS{L:List Bool}{n:Nat}:aZ (af (L.map bE)) n [CC.aa (.val (.bool true))]=af ((L.set n true).map bE):=lM bE L n true
theorem wn.Nz{l:List Obj}{ops:List bD}{n:Nat}{a b:Mk}{k j:Nat}{es:List (ByteArray×Int)}{qs:List bo}(h:wn l ops n a b k j es qs):b.mu<=(⟨a.O.set n true,a.P⟩:Mk).mu:=by
 refine Nat.add_le_add (jq _ _ (by rw[Yy];exact h.st.lo) fun i hi=>?_) (jq _ _ h.st.lp h.st.mp)
 rcases jC hi with hi|rfl
 .exact h.st.mo i hi
 .exact h.on
theorem LM{qs:List bo}{k:Nat}(h:k<qs.length):dg (qs.map bo.enc) (k:Nat)=some [.sl 1 qs[k].data,.val (.bool qs[k].has),.val (.int .i64 qs[k].eE),.val (.int .i64 qs[k].cn)]:=by rw[bI,NO,sA h];rfl
structure XZ where
 j:Nat
 b:Mk
end Go.Proofs.YtodckkkbiidffaaGreatDoor
