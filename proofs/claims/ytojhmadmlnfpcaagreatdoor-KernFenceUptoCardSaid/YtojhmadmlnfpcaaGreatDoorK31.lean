/- Part 31 of 43: what the law stands on. -/
import Derived.Test.YtojhmadmlnfpcaaGreatDoorK16
import Derived.Test.YtojhmadmlnfpcaaGreatDoorK22
import Derived.Test.YtojhmadmlnfpcaaGreatDoorK24
import Derived.Test.YtojhmadmlnfpcaaGreatDoorK27
import Derived.Test.YtojhmadmlnfpcaaGreatDoorK30
set_option linter.unusedVariables false
set_option linter.unusedSimpArgs false
set_option linter.unnecessarySimpa false
set_option maxRecDepth 100000
set_option maxHeartbeats 64000000
namespace Go.Proofs.YtojhmadmlnfpcaaGreatDoor
open Go.AM Go.ChangeShapes Go.WideShapes Go.ChangeAt Go.RowKit
theorem FB(o:Obj)(hf:o.data.length<=4194304)(dm n:Int):body Tryz.prog c64 [o.cv,an .i64 dm,an .i64 n] [] (fun r m=>cJ m r (.bF [Y6 (jv o.ah o.data dm n).1,cH (jv o.ah o.data dm n).2])):=by
 obtain⟨ah,data,ak,target,aJ,aj,aL,am,up⟩:=o;have hf:data.length<=4194304:=hf;show body Tryz.prog c64 _ [] (fun r m=>cJ m r (.bF [Y6 (jv ah data dm n).1,cH (jv ah data dm n).2]))
 refine bH (fun h1=>?_) (fun h1=>?_)
 .rw[jv,if_pos h1];exact j0 (.one (.aI 1))
 refine br (fun h2=>?_) (fun h2=>?_)
 .rw[jv,if_neg h1,if_pos h2];exact j0 (.one (.aI 1))
 have hk:ah=1:=by simpa using h2
 refine aB (fun h3=>?_) (fun h3=>?_)
 .rw[jv,if_neg h1,if_neg (by simpa using hk),if_pos (.inl h3)]
  exact j0 (.one (.aI 1))
 refine aB (fun h4=>?_) (fun h4=>?_)
 .rw[jv,if_neg h1,if_neg (by simpa using hk),if_pos (.inr h4)]
  exact j0 (.one (.aI 1))
 rw[jv,if_neg h1,if_neg (by simpa using hk),if_neg (fun h=>h.elim h3 h4)]
 have h3:¬dm<0:=h3;have h4:¬n<0:=h4;obtain⟨A,rfl⟩:∃A:Nat,dm=A:=⟨dm.toNat,om⟩;obtain⟨N,rfl⟩:∃N:Nat,n=N:=⟨n.toNat,om⟩;rw[show((A:Nat):Int).toNat=A from rfl,show((N:Nat):Int).toNat=N from rfl];have Ic:=nb A data.length;have hm2:=nb N (data.length-fc A data.length);have hL:pF (an .i64 (if(data.length:Int)<(A:Int)then(data.length:Int)else(A:Int)))=some (fc A data.length):=by rw[ry];rfl
 have hE:IntKind.i64.wrap ((if(data.length:Int)<(A:Int)then(data.length:Int)else(A:Int))+(if IntKind.i64.wrap ((data.length:Int)-(if(data.length:Int)<(A:Int)then(data.length:Int)else(A:Int)))<(N:Int)then IntKind.i64.wrap ((data.length:Int)-(if(data.length:Int)<(A:Int)then(data.length:Int)else(A:Int)))else(N:Int)))
   =((fc A data.length+fc N (data.length-fc A data.length):Nat):Int):=by
  rw[ry,show(data.length:Int)-((fc A data.length:Nat):Int)=((data.length-fc A data.length:Nat):Int) by omega,jN om,ry,
   show((fc A data.length:Nat):Int)+((fc N (data.length-fc A data.length):Nat):Int)=((fc A data.length+fc N (data.length-fc A data.length):Nat):Int) by omega,jN om]
 have hH:pF (an .i64 (IntKind.i64.wrap ((if(data.length:Int)<(A:Int)then(data.length:Int)else(A:Int))+(if IntKind.i64.wrap ((data.length:Int)-(if(data.length:Int)<(A:Int)then(data.length:Int)else(A:Int)))<(N:Int)then IntKind.i64.wrap ((data.length:Int)-(if(data.length:Int)<(A:Int)then(data.length:Int)else(A:Int)))else(N:Int)))))=some (fc A data.length+fc N (data.length-fc A data.length)):=by rw[hE];rfl
 refine ag hL ?_;refine ag hH ?_;refine cF (by rw[aap,aaR,aaR];show fc A data.length<=fc A data.length+fc N (data.length-fc A data.length)/\fc A data.length+fc N (data.length-fc A data.length)<=data.length;omega) ?_
 refine hB (Jd data A N) (by simp[Jd];omega) ?_
 exact j0 (eP.self rfl)
theorem M0(o:Obj)(hf:o.data.length<=4194304)(dm n:Int){m:Mem}{K:CV->Mem->Prop}(h:K (.bF [Y6 (jv o.ah o.data dm n).1,cH (jv o.ah o.data dm n).2]) m):ar Tryz.prog 64 [o.cv,an .i64 dm,an .i64 n] m K:=
 bb (aZ Tryz.func64 l64 (FB o hf dm n)) (by simp[Obj.cv,Obj.enc,an,CV.dx,CC.dx,RV.dx]) fun r m1 hf=>⟨_,hf,h⟩
def c63:LF:= ⟨44,[.cell true 2 6,.tmp 7,.tmp 8],(.seq (.ai [qu 6 (.alloc [(qd 0),(qd 0)]),qu 7 (.aD (qi 0)),qu 8 (.aD (qi 0))]) (.seq (.bQ [qm 12 0,qu 13 (.aW 12),qf 14 0 13,qf 15 2 14,ql 16 15,qm 17 0,qu 18 (.aW 17),qf 19 3 18,ql 20 19,qu 21 (.bO 4 16 20),qf 22 3 21,ql 23 22,qm 24 1,qm 25 2,qu 26 (qc 103 [23,24,25]),qm 11 26,qu 27 (.ext 11 0),qu 28 (.ext 11 1),qu 9 (.alloc [(qd 0),(qd 0)]),qw (.store 2 9 27),qm 10 28] [(.cons 0 none (.cons 1 none (.cons 2 none (.cons 3 none (.cons 4 none (.cons 5 none (.cons 6 none (.cons 7 none (.cons 8 none (.cons 9 none (.cons 10 none (.cons 11 none (.cons 12 none (.cons 13 none (.xK (.cons 14 (some []) (.cons 15 none (.cons 16 none (.cons 17 none (.cons 18 (some [11,9,8,4]) (.cons 19 (some []) (.cons 20 none .nil))))))) (.cons 18 (some [11,9,8,4]) (.cons 14 (some []) (.cons 15 none (.cons 16 none (.cons 17 none (.cons 19 (some []) (.cons 20 none .nil))))))))))))))))))))))]) (.cO (.seq (.seq (.ai [qm 29 10,qu 30 (.aF .neq 29 (qi 0))]) (.cond 30 (.seq (.ai [qu 31 (.build [(qd 0),(qd 0)] []),qm 32 10,qw (.store 2 6 31),qu 7 (.aD (qi 0)),qm 8 32]) .ret) .skip)) (.seq (.bQ [qL 33 2 9,qm 34 0,qu 35 (.aW 34),qf 36 0 35,qf 37 1 36,ql 38 37,qf 39 0 9,ql 40 39,qu 41 (.bO 2 38 40),qf 42 0 41,ql 43 42,qw (.store 2 6 33),qm 7 43,qu 8 (.aD (qi 0))] [(.cons 0 none (.cons 1 none (.cons 2 none (.cons 3 none (.cons 4 none (.cons 5 none (.cons 6 none (.cons 7 none (.cons 8 none (.cons 9 none (.cons 10 none (.cons 11 (some [10,8,7,5]) (.cons 12 none (.cons 13 none .nil))))))))))))))]) .ret)))))⟩
def c70:LF:= ⟨30,[.tmp 6],(.seq (.ai [qu 6 (.aD (qi 0))]) (.seq (.seq (.ai [qm 7 2,qu 8 (.aF .eql 7 (qi 0))]) (.cond 8 (.seq (.ai [qm 9 0,qm 10 0,qu 11 (.aW 10),qf 12 0 11,qL 13 3 12,qu 14 (qc 66 [13]),qu 15 (.aW 9),qf 16 0 15,qw (.store 3 16 14)]) (.bQ [qm 17 0,qu 18 (.aW 17),qf 19 0 18,qf 20 2 19,ql 21 20,qm 22 0,qu 23 (.aW 22),qf 24 3 23,ql 25 24,qm 26 1,qu 27 (.bO 4 21 25),qf 28 3 27,qw (.store 1 28 26)] [(.cons 0 none (.cons 1 none (.cons 2 none (.cons 3 none (.cons 4 none (.cons 5 none (.cons 6 none (.cons 7 none (.cons 8 none (.cons 9 none (.cons 10 none (.cons 11 none (.cons 12 (some []) .nil)))))))))))))])) .skip)) (.seq (.ai [qm 29 2,qm 6 29]) .ret)))⟩
def c76:LF:= ⟨23,[.tmp 6],(.seq (.ai [qu 6 (.aD (qi 0))]) (.seq (.seq (.ai [qm 7 2,qu 8 (.aF .eql 7 (qi 0))]) (.cond 8 (.seq (.ai [qm 9 0,qm 10 0,qu 11 (.aW 10),qf 12 0 11,qL 13 3 12,qu 14 (qc 66 [13]),qu 15 (.aW 9),qf 16 0 15,qw (.store 3 16 14)]) (.ai [qm 17 0,qm 18 1,qu 19 (.aW 17),qf 20 0 19,qf 21 0 20,qw (.store 1 21 18)])) .skip)) (.seq (.ai [qm 22 2,qm 6 22]) .ret)))⟩
namespace Kn
structure Cl where
 aL:Int
 ah:Int
 fd:Int
 gA:Int
 n:Int
 bx:Int
 a8:Int
 cA:bJ.dN
 data:List Int
structure An where
 iL:Int
 n:Int
 m:Int
 data:List (List Dt)
def An.no(e:Int):An:=⟨e,0,0,[]⟩
def An.enc(a:An):List Dt:=[.val (.int .i64 a.iL),.val (.int .i64 a.n),.val (.int .i64 a.m),.sl 1 a.data]
def An.rv(a:An):RV:= .agg (a.enc.map .aa)
def An.cv(a:An):CV:= .rv a.rv
def Cl.enc(c:Cl):List Dt:=[.val (.int .i64 c.aL),.val (.int .i64 c.ah),.val (.int .i64 c.fd),.val (.int .i64 c.gA),.val (.int .i64 c.n),.val (.int .i64 c.bx),.val (.int .i64 c.a8),.val (.string (bJ.cz c.cA)),.sl 1 (fM c.data)]
def Cl.cv(c:Cl):CV:= .rv (.agg (c.enc.map .aa))
def cB(c:Cl):Bk:= .var (c.enc.map .aa)
def xC(k:Kr)(p:Nat):List Dt:=[cX k.l,eA k.ops,fC k.ps,.val (.int .i64 (p:Nat))]
def xB(k:Kr)(p:Nat):Bk:= .var ((xC k p).map .aa)
def ln(a b:Int):Int:=IntKind.i64.wrap ((BitVec.ofInt 64 a&&&BitVec.ofInt 64 b).toNat:Int)
def Py(a b:Int):Int:=IntKind.i64.wrap ((BitVec.ofInt 64 a|||BitVec.ofInt 64 b).toNat:Int)
def gM(l:List fH)(fd need:Int):(Int×Int)×Int:=(((Tb.kU (l.map lh) fd need).1.eT,(Tb.kU (l.map lh) fd need).1.cf),(Tb.kU (l.map lh) fd need).2)
def rC(l:List fH)(fd:Int):(Int×Int)×Int:=(((Tb.dt (l.map lh) fd).1.eT,(Tb.dt (l.map lh) fd).1.cf),(Tb.dt (l.map lh) fd).2)
def wD(l:List fH)(fd:Int):List fH×Int:=((Tb.m8 (l.map lh) fd).1.map Pd,(Tb.m8 (l.map lh) fd).2)
def M1(l:List fH)(fd:Int):List fH×Int×Int:=((Tb.uv (l.map lh) fd).1.map Pd,(Tb.uv (l.map lh) fd).2.1,(Tb.uv (l.map lh) fd).2.2)
def M2(l:List fH)(fd n:Int):List fH×Int:=((Tb.Ap (l.map lh) fd n).1.map Pd,(Tb.Ap (l.map lh) fd n).2)
def SM(c:Int×Int):RV:= .agg [.aa (.val (.int .i64 c.1)),.aa (.val (.int .i64 c.2))]
theorem sU(l:List fH):j7 l=Tb.ef (l.map lh):=by show _=CV.rv (.one (.aa (Tb.pS (l.map lh))));rw[y2];rfl
theorem CS(l:List fH)(fd need:Int){m:Mem}{K:CV->Mem->Prop}(h:K (.bF [SM (gM l fd need).1,cH (gM l fd need).2]) m):ar Tryz.prog 103 [j7 l,an .i64 fd,an .i64 need] m K:=by rw[sU];exact Tb.j8 _ fd need h
theorem Pz(l:List fH)(fd:Int){m:Mem}{K:CV->Mem->Prop}(h:K (.bF [SM (rC l fd).1,cH (rC l fd).2]) m):ar Tryz.prog 80 [j7 l,an .i64 fd] m K:=by rw[sU];exact Tb.wb _ fd h
theorem Ju(l:List fH)(hl:l.length<=2097152)(fd:Int){m:Mem}{K:CV->Mem->Prop}(h:K (.bF [LQ (wD l fd).1,cH (wD l fd).2]) m):ar Tryz.prog 67 [j7 l,an .i64 fd] m K:=by
 rw[sU];refine Tb.Mp _ (by simpa using hl) fd ?_
 rw[oT];exact h
theorem PA(l:List fH)(hl:l.length<=2097152)(fd:Int){m:Mem}{K:CV->Mem->Prop}(h:K (.bF [LQ (M1 l fd).1,cH (M1 l fd).2.1,cH (M1 l fd).2.2]) m):ar Tryz.prog 68 [j7 l,an .i64 fd] m K:=by
 rw[sU];refine Tb.Sl _ (by simpa using hl) fd ?_
 rw[oT];exact h
theorem Jv(l:List fH)(hl:l.length<=2097152)(fd n:Int){m:Mem}{K:CV->Mem->Prop}(h:K (.bF [LQ (M2 l fd n).1,cH (M2 l fd n).2]) m):ar Tryz.prog 69 [j7 l,an .i64 fd,an .i64 n] m K:=by
 rw[sU];refine Tb.Mt _ (by simpa using hl) fd n ?_
 rw[oT];exact h
def lO(ops:List bG)(z:Int):Int:=match ops[z.toNat]? with|some o=>o.bv|none=>0
def ox(ops:List bG)(z:Int):Int:=match ops[z.toNat]? with|some o=>o.dm|none=>0
def bu(k:Kr)(p:Nat)(fd need:Int):(Int×Int)×Int×Int:=
 if(gM (aT k.ps p) fd need).2≠0 then((0,0),0,(gM (aT k.ps p) fd need).2)else((gM (aT k.ps p) fd need).1,lO k.ops (gM (aT k.ps p) fd need).1.1,0)
def fY(k:Kr)(p:Nat)(l:List fH)(e:Int):Kr:=if e=0 then⟨k.l,k.ops,dM k.ps p l⟩else k
def cQ(k:Kr)(l:List Obj)(e:Int):Kr:=if e=0 then⟨l,k.ops,k.ps⟩else k
structure KW(k:Kr)(p:Nat):Prop where
 kr:dE k.l k.ops k.ps
 l40:k.l.length<=40
 DL:wB k.l
 lk:na (k.l.map Obj.ob)
 nm:∀o,o∈k.l->∀e,e∈o.ak.map nu->e.1.size<=12
 hp:p<k.ps.length
 cap:∀s,s∈aT k.ps p->s.has=true->∃n j:Nat,s.eT=n/\n<k.ops.length/\lO k.ops n=j/\j<k.l.length
theorem jd{ps:List bi}{p:Nat}(hp:p<ps.length):aT ps p=ps[p].aU:=by rw[aT,aab hp]
theorem wE{l:List fH}{fd need:Int}(h:(gM l fd need).2=0):∃s,s∈l/\s.has=true/\(gM l fd need).1=(s.eT,s.cf):=by
 unfold gM Tb.kU at h⊢;split at h
 .simp at h
 .rename_i hn;rw[if_neg hn];unfold Tb.dt at h⊢;cases hx:(if 0<=fd then(l.map lh)[fd.toNat]? else none)with
  |none=>rw[hx]at h;simp at h
  |some s=>
   rw[hx]at h;simp only at h⊢;cases hh:s.has with
   |false=>rw[hh]at h;simp at h
   |true=>
    split at hx
    .rw[aaf]at hx;cases hy:l[fd.toNat]? with
     |none=>rw[hy]at hx;cases hx
     |some t=>
      rw[hy]at hx;simp only[aaC,aaA]at hx;subst hx;exact⟨t,aag hy,hh,rfl⟩
    .cases hx
theorem KW.at{k:Kr}{p:Nat}(h:KW k p){fd need:Int}(he:(gM (aT k.ps p) fd need).2=0):∃n j:Nat,(gM (aT k.ps p) fd need).1.1=n/\n<k.ops.length/\lO k.ops n=j/\j<k.l.length:=by
 obtain⟨s,hs,hh,e⟩:=wE he;obtain⟨n,j,h1,h2⟩:=h.cap s hs hh;exact⟨n,j,by rw[e];exact h1,h2⟩
theorem KW.held{k:Kr}{p:Nat}(h:KW k p){fd need:Int}(he:(bu k p fd need).2.2=0):∃n j:Nat,(bu k p fd need).1.1=n/\n<k.ops.length/\(bu k p fd need).2.1=j/\j<k.l.length/\lO k.ops n=j:=by
 unfold bu at he⊢;split at he
 .rename_i hn;exact absurd he hn
 .rename_i hn;rw[if_neg hn];obtain⟨n,j,h1,h2,h3,h4⟩:=h.at (Decidable.of_not_not hn);exact⟨n,j,h1,h2,by show lO k.ops _=_;rw[h1];exact h3,h4,h3⟩
theorem KW.mP{k:Kr}{p:Nat}(h:KW k p):jZ k.l:=⟨h.kr.ll,fun o ho=>(h.kr.sm o ho).mP⟩
theorem ib{m:Mem}{Z:Nat->Prop}{id esz:Nat}{p:Option Nat}{ds:List (List Dt)}(hz:Z id)(hm:m[id]? =some (.row esz (af ds))):dP m Z p (.row id esz 0 none) (.sl esz ds):=by
 refine dP.row id esz 0 none (af ds) ds hz hm (by simp[af]) (fun i cs es h1 h2=>?_) (fun i cs es j c d h1 h2 h3 h4=>?_)
 .simp only[af,aaf,h2,aaC,aaA]at h1;subst h1;simp
 .simp only[af,aaf,h2,aaC,aaA]at h1;subst h1;rw[aaf,h4]at h3;cases h3;exact .aa _
theorem bD(k:Kr)(p:Nat):xB k p≠.bh:=by intro h;cases h
theorem b7(c:Cl):cB c≠.bh:=by intro h;cases h
theorem SN{σ:Nat->Nat}{m:Mem}{Z:Nat->Prop}{id p:Nat}{a b c:CC}{k:Kr}(ha:dP m Z (some id) a (cX k.l))(hb:dP m Z (some id) b (eA k.ops))(hc:dP m Z (some id) c (fC k.ps)):
  mZ σ m Z id (.var [a,b,c,.aa (.val (.int .i64 (p:Nat)))]) (xB k p):=
 e7.var (.cons (.fv ha) (.cons (.fv hb) (.cons (.fv hc) (.cons (.aQ (.aa _)) .nil))))
theorem Hy{f:Nat}{args:List CV}(ha:∀σ,args.map (CV.aQ σ)=args){k k':Kr}{p:Nat}{r0:CV}(hr:∀σ,r0.aQ σ=r0)(hc:ar Tryz.prog f (.rv (.one (.ptr 0 0))::args) [xB k p] (fun r m=>r=r0/\m=[xB k' p])){m:Mem}(id:Nat)(hb:df m id=some (xB k p)){K:CV->Mem->Prop}(hK:K r0 (ba m id (xB k' p))):ar Tryz.prog f (.rv (.one (.ptr id 0))::args) m K:=by
 have hid:id<m.length:=by rw[aX]at hb;exact(aac.1 hb).1
 refine bC [id] m.length rfl rfl rfl (by simp[fm,hid]) (args0:= .rv (.one (.ptr 0 0))::args) (by rw[aaX,ha];rfl) (fun i b' hi=>?_) hc (fun r1 m1 Bp=>?_)
 .cases i with
  |zero=>
   simp at hi;subst hi;refine .inr ⟨fun h=>h,_,?_,.eq rfl (bD _ _)⟩
   rw[aX]at hb;exact hb
  |succ i=>simp at hi
 .obtain⟨rfl,rfl⟩:=Bp;refine⟨aaj _,?_⟩;rw[hr];show K _ (dn m [id] [xB k' p]);rw[Cg];exact hK
theorem Rb{f:Nat}{args:List CV}(ha:∀σ,args.map (CV.aQ σ)=args){k k':Kr}{p:Nat}{c:Cl}{r0:CV}(hr:∀σ,r0.aQ σ=r0)(hc:ar Tryz.prog f (.rv (.one (.ptr 0 0)):: .rv (.one (.ptr 1 0))::args) [xB k p,cB c] (fun r m=>r=r0/\m=[xB k' p,cB c])){m:Mem}(i j:Nat)(pM:gp [i,j]=true)(aC:fm m.length [i,j]=true)(hi:df m i=some (xB k p))(hj:df m j=some (cB c)){K:CV->Mem->Prop}(hK:K r0 (dn m [i,j] [xB k' p,cB c])):ar Tryz.prog f (.rv (.one (.ptr i 0)):: .rv (.one (.ptr j 0))::args) m K:=by
 refine bC [i,j] m.length rfl rfl pM aC (args0:= .rv (.one (.ptr 0 0)):: .rv (.one (.ptr 1 0))::args) (by rw[aaX,aaX,ha];rfl) (fun n b' hn=>?_) hc (fun r1 m1 Bp=>?_)
 .match n,hn with
  |0,hn=>
   cases hn;refine .inr ⟨fun h=>h,_,?_,.eq rfl (bD _ _)⟩
   rw[aX]at hi;exact hi
  |1,hn=>
   cases hn;refine .inr ⟨fun h=>h,_,?_,.eq rfl (b7 _)⟩
   rw[aX]at hj;exact hj
  |n+2,hn=>simp at hn
 .obtain⟨rfl,rfl⟩:=Bp;refine⟨aaj _,?_⟩;rw[hr];exact hK
theorem l63:bs Tryz.prog Tryz.f63=some c63.er:=by kernel_rfl
def PB(x:(Int×Int)×Int×Int):CV:= .bF [SM x.1,cH x.2.1,cH x.2.2]
def Zs:LC:=bK (bK c63.code)
def Zt:LC:=pj Zs
theorem CT(k:Kr)(p:Nat)(hw:KW k p)(fd need:Int):
  aw Tryz.prog 1 Zt (nG Tryz.prog c63.lj (fun r m=>r=PB (bu k p fd need)/\∃ex,m=xB k p::ex))
   ⟨mg 44 [(0,.rv (.one (.ptr 0 0))),(6,.rv (.one (.ptr 1 0))),(9,.rv (.one (.ptr 2 0))),(10,an .i64 (gM (aT k.ps p) fd need).2)],
    [xB k p,.var [.aa (.val (.int .i64 0)),.aa (.val (.int .i64 0))],.var [.aa (.val (.int .i64 (gM (aT k.ps p) fd need).1.1)),.aa (.val (.int .i64 (gM (aT k.ps p) fd need).1.2))]]⟩:=by
 have IA:= @KW.at k p hw fd need;have BV:bu k p fd need=if(gM (aT k.ps p) fd need).2≠0 then((0,0),0,(gM (aT k.ps p) fd need).2)else((gM (aT k.ps p) fd need).1,lO k.ops (gM (aT k.ps p) fd need).1.1,0):=rfl
 rw[BV];clear BV;generalize gM (aT k.ps p) fd need=w at IA⊢;obtain⟨⟨o,r⟩,e⟩:=w;refine br (fun he=>?_) (fun he=>?_)
 .rw[if_pos he];exact⟨rfl,_,rfl⟩
 .have he:e=0:=he;subst he;obtain⟨n,j,h1,h2,h3,h4⟩:=IA rfl;have h1:o=n:=h1;subst h1;rw[if_neg aG];refine ag (oR h2) ?_;have ho:lO k.ops (n:Int)=k.ops[n].bv:=by rw[lO,aaw,aab h2]
  refine⟨⟨rfl,ag (oR h2) rfl,rfl,rfl,trivial⟩,?_⟩;show _=PB ((_,_),lO k.ops (n:Int),0)/\_;rw[ho];exact⟨rfl,_,rfl⟩
theorem sL(k:Kr)(p:Nat)(hw:KW k p)(fd need:Int):
  body Tryz.prog c63 [.rv (.one (.ptr 0 0)),an .i64 fd,an .i64 need] [xB k p] (fun r m=>r=PB (bu k p fd need)/\∃ex,m=xB k p::ex):=by
 have hg:=d5 hw.hp;rw[<-jd hw.hp]at hg;refine ag hg ?_;refine⟨?_,?_⟩
 .refine CS _ fd need ?_;refine⟨trivial,⟨rfl,ag hg rfl,rfl,rfl,trivial⟩,trivial,_,View.o1 3 [0,1,2] [] ?_,CT k p hw fd need⟩
  .exact .pt rfl rfl (.eq rfl (bD _ _)) (.pe rfl rfl rfl (.pm rfl rfl rfl))
 .refine⟨⟨rfl,ag hg rfl,rfl,rfl,trivial⟩,?_⟩;refine CS _ fd need ?_;refine⟨trivial,trivial,_,View.o1 3 [0,1,2] [] ?_,CT k p hw fd need⟩
  .exact .pt rfl rfl (.eq rfl (bD _ _)) (.pe rfl rfl rfl (.pm rfl rfl rfl))
theorem j8(k:Kr)(p:Nat)(hw:KW k p)(fd need:Int){m:Mem}(id:Nat)(hb:df m id=some (xB k p)){K:CV->Mem->Prop}(hK:K (PB (bu k p fd need)) m):
  ar Tryz.prog 63 [.rv (.one (.ptr id 0)),an .i64 fd,an .i64 need] m K:=
 fb (args0:=[.rv (.one (.ptr 0 0)),an .i64 fd,an .i64 need]) (cs:=xC k p) id hb rfl rfl
  (fun _ hK=>eJ rfl (cm Tryz.func63 l63 (sL k p hw fd need)) hK) hK
theorem l70:bs Tryz.prog Tryz.f70=some c70:=by kernel_rfl
theorem l76:bs Tryz.prog Tryz.f76=some c76:=by kernel_rfl
def TX(Q:CV->Mem->Prop)(r:CV)(m:Mem):Prop:=∃r' m',View 1 ⟨[r],m⟩ ⟨[r'],m'⟩/\Q r' m'
theorem FC{ps:List bi}{n:Nat}(hn:n<ps.length)(y:List fH):ba (af (ps.map bi.enc)) n ((bi.enc ⟨ps[n].aV,ps[n].fenced,ps[n].code,y⟩).map .aa)=af ((dM ps n y).map bi.enc):=by
 have:dM ps n y=ps.set n {ps[n]with aU:=y}:=by rw[dM,aab hn]
 rw[this,bn,af,af,aa6,aa6]
theorem FD(k:Kr)(p:Nat)(hk:dE k.l k.ops k.ps)(hp:p<k.ps.length)(l:List fH)(e:Int):
  body Tryz.prog c70 [.rv (.one (.ptr 0 0)),j7 l,an .i64 e] [xB k p] (TX fun r m=>r=an .i64 e/\m=[xB (fY k p l e) p]):=by
 refine bH (fun he=>?_) (fun he=>?_)
 .have he:e=0:=he;subst he;refine ix k.l k.ops k.ps ⟨hk.ll,fun o ho=>(hk.sm o ho).mP⟩ hk.lo hk.lp hk.sl hk.ne ?_
  refine ag (lY hp) ?_;refine ag (bI bi.enc k.ps hp) ?_;refine⟨trivial,_,_,View.o 4 [0] [1,2,3] (.eq rfl .nil) (.pt rfl rfl (SN (k:=fY k p l 0) (ib rfl rfl) (ib rfl rfl) (ib rfl ?_)) (.nil _)),rfl,rfl⟩;refine congrArg (fun x=>some (Bk.row 4 x)) ?_
  exact FC hp l
 .have he:¬e=0:=he;refine⟨_,_,View.o 1 [0] [] (.eq rfl .nil) (.pt rfl rfl (.eq rfl (bD _ _)) (.nil _)),rfl,?_⟩;rw[fY,if_neg he]
theorem CU(k:Kr)(p:Nat)(hk:dE k.l k.ops k.ps)(hp:p<k.ps.length)(l:List fH)(e:Int){m:Mem}(id:Nat)(hb:df m id=some (xB k p)){K:CV->Mem->Prop}(hK:K (an .i64 e) (ba m id (xB (fY k p l e) p))):
  ar Tryz.prog 70 [.rv (.one (.ptr id 0)),j7 l,an .i64 e] m K:=
 Hy (args:=[j7 l,an .i64 e]) (fun _=>rfl) (fun _=>rfl)
  (bN (aZ Tryz.func70 l70 (FD k p hk hp l e)) fun r m1⟨r',m',hv,hq⟩=>⟨r',m',hv,hq⟩) id hb hK
theorem AH(k:Kr)(p:Nat)(hk:dE k.l k.ops k.ps)(l:List Obj)(e:Int):
  body Tryz.prog c76 [.rv (.one (.ptr 0 0)),cg l,an .i64 e] [xB k p] (TX fun r m=>r=an .i64 e/\m=[xB (cQ k l e) p]):=by
 refine bH (fun he=>?_) (fun he=>?_)
 .have he:e=0:=he;subst he;refine ix k.l k.ops k.ps ⟨hk.ll,fun o ho=>(hk.sm o ho).mP⟩ hk.lo hk.lp hk.sl hk.ne ?_
  exact⟨_,_,View.o 4 [0] [1,2,3] (.eq rfl .nil) (.pt rfl rfl (SN (k:=cQ k l 0) (.aa _) (ib rfl rfl) (ib rfl rfl)) (.nil _)),rfl,rfl⟩
 .have he:¬e=0:=he;refine⟨_,_,View.o 1 [0] [] (.eq rfl .nil) (.pt rfl rfl (.eq rfl (bD _ _)) (.nil _)),rfl,?_⟩;rw[cQ,if_neg he]
theorem nc(k:Kr)(p:Nat)(hk:dE k.l k.ops k.ps)(l:List Obj)(e:Int){m:Mem}(id:Nat)(hb:df m id=some (xB k p)){K:CV->Mem->Prop}(hK:K (an .i64 e) (ba m id (xB (cQ k l e) p))):
  ar Tryz.prog 76 [.rv (.one (.ptr id 0)),cg l,an .i64 e] m K:=
 Hy (args:=[cg l,an .i64 e]) (fun _=>rfl) (fun _=>rfl)
  (bN (aZ Tryz.func76 l76 (AH k p hk l e)) fun r m1⟨r',m',hv,hq⟩=>⟨r',m',hv,hq⟩) id hb hK
end Kn
namespace Kn
def M3(k:Kr)(n:Nat)(bv cf:Int)(r:CV)(m:Mem):Prop:=∃r' m',View 0 ⟨[r],m⟩ ⟨[r'],m'⟩/\
 (((aM k n bv cf).2.2≠0/\r'= .bF [iQ m9,cH 0,cH (aM k n bv cf).2.2]/\m'=[])\/
 ((aM k n bv cf).2.2=0/\r'= .bF [.agg [.row 0 9 0 none,.aa (eA (aM k n bv cf).1.ops),.aa (fC (aM k n bv cf).1.ps)],cH (aM k n bv cf).2.1,cH 0]/\m'=[.row 9 (af ((aM k n bv cf).1.l.map Obj.enc))]))
theorem t3V{σ:Nat->Nat}{m:Mem}{Z:Nat->Prop}{a a' b b' c c':RV}(h1:xH σ m Z a a')(h2:xH σ m Z b b')(h0:xH σ m Z c c'):qv σ m Z (.bF [a,b,c]) (.bF [a',b',c']):=
 .bF rfl fun i r r' e1 e2=>by
  match i,e1,e2 with
  |0,e1,e2=>cases e1;cases e2;exact h1
  |1,e1,e2=>cases e1;cases e2;exact h2
  |2,e1,e2=>cases e1;cases e2;exact h0
  |n+3,e1,e2=>simp at e1
theorem Zu{σ:Nat->Nat}{m:Mem}{Z:Nat->Prop}{x y:Int}:qv σ m Z (.bF [.agg [.aI,.aI,.aI],cH x,cH y]) (.bF [iQ m9,cH x,cH y]):=
 t3V (.agg rfl fun i c c' h1 h2=>by
  match i,h1,h2 with
  |0,h1,h2=>cases h1;cases h2;exact .fv (.aI 9)
  |1,h1,h2=>cases h1;cases h2;exact .fv (.aI 2)
  |2,h1,h2=>cases h1;cases h2;exact .fv (.aI 4)
  |n+3,h1,h2=>simp at h1) (.one (.aQ (.aa _))) (.one (.aQ (.aa _)))
def Q18(k:Kr)(n:Nat)(bv cf:Int):Ex->St->Prop:=nG Tryz.prog c79.lj (M3 k n bv cf)
theorem CW{k:Kr}{n:Nat}{bv cf e:Int}{m:Mem}(h:aM k n bv cf=(m9,0,e))(he:e≠0):M3 k n bv cf (.bF [.agg [.aI,.aI,.aI],cH 0,cH e]) m:=by refine⟨_,[],View.of m.length [] [] rfl rfl rfl rfl rfl rfl (.put Zu .nil) (.nil _),.inl ?_⟩;rw[h];exact⟨he,rfl,rfl⟩
theorem M4(k:Kr)(l:List Obj)(O:List bG)(ps:List bi)(n i:Nat)(hn:n<ps.length)(hi:i<O.length)(bv fd cf:Int)(y:List fH)(h:aM k n bv cf=(⟨l,O.set i ⟨bv,0⟩,dM ps n y⟩,fd,0)):
  aw Tryz.prog 0 G60 (Q18 k n bv cf)
   ⟨mg 74 [(1,an .i64 (n:Nat)),(2,an .i64 bv),(8,.rv (.one (.ptr 0 0))),(11,an .i64 (i:Nat)),(12,j7 y),(13,an .i64 fd),(15,.rv (.one (.ptr 4 0)))],M60 l O ps⟩:=by
 refine ag (Ad hi) ?_;have ho:=bI bG.enc O hi;generalize O[i]=x at ho;obtain⟨xo,xa⟩:=x;refine ag ho ?_;refine ag (lY hn) ?_;have hp:=bI bi.enc ps hn;have qq:dM ps n y=ps.set n {ps[n]with aU:=y}:=by rw[dM,aab hn]
 rw[qq]at h;generalize ps[n]=z at hp h;obtain⟨aV,fenced,cd,aU⟩:=z;refine ag hp ?_;refine⟨.bF [.agg [.row 0 9 0 none,.aa (eA (O.set i ⟨bv,0⟩)),.aa (fC (ps.set n ⟨aV,fenced,cd,y⟩))],cH fd,cH 0],[.row 9 (af (l.map Obj.enc))],
  View.o 5 [1] [2,3] (.put (t3V (.agg rfl fun j c c' h1 h2=>?_) (.one (.aQ (.aa _))) (.one (.aQ (.aa _)))) .nil) (.pn rfl rfl rfl),.inr ⟨by rw[h],by rw[h],by rw[h]⟩⟩
 match j,h1,h2 with
 |0,h1,h2=>cases h1;cases h2;exact .aQ (σ:=sg [1] 5) (.row 0 9 0 none)
 |1,h1,h2=>
  cases h1;cases h2;refine .fv (ib rfl (congrArg (fun x=>some (Bk.row 2 x)) ?_))
  show ba (af (O.map bG.enc)) i ((bG.enc ⟨bv,0⟩).map .aa)=_;rw[bn,af,af,aa6,aa6]
 |2,h1,h2=>
  cases h1;cases h2;refine .fv (ib rfl (congrArg (fun x=>some (Bk.row 4 x)) ?_))
  show ba (af (ps.map bi.enc)) n ((bi.enc ⟨aV,fenced,cd,y⟩).map .aa)=_;rw[bn,af,af,aa6,aa6]
 |n+3,h1,h2=>simp at h1
theorem M5(k:Kr)(hk:dE k.l k.ops k.ps)(n:Nat)(hn:n<k.ps.length)(bv cf:Int)(i:Nat)(hi:i=cY k.ops)(Qq:i<=k.ops.length)(jC:¬(DI k.ops=none/\k.ops.length>=60)):
  aw Tryz.prog 0 YV (Q18 k n bv cf)
   ⟨mg 74 [(1,an .i64 (n:Nat)),(2,an .i64 bv),(3,an .i64 cf),(4,.rv (.one (.ptr 0 0))),(8,.rv (.one (.ptr 1 0))),(11,an .i64 (i:Nat))],[.var ((kC k.l k.ops k.ps).map .aa),.var [.aI,.aI,.aI]]⟩:=by
 have DJ:aT k.ps n=k.ps[n].aU:=by rw[aT,aab hn]
 have DE:=hk.sl _ (aau hn);have Sm:k.ops.length<=4194304:=hk.lo;have hS:aM k n bv cf=if(fL k.ps[n].aU (i:Nat) cf).2.2≠0 then(m9,0,(fL k.ps[n].aU (i:Nat) cf).2.2)
   else(⟨k.l,iR k.ops i ⟨bv,0⟩,dM k.ps n (fL k.ps[n].aU (i:Nat) cf).1⟩,(fL k.ps[n].aU (i:Nat) cf).2.1,0):=by
  rw[aM,if_neg jC,DJ,<-hi]
 refine ag (d5 hn) ?_;generalize k.ps[n].aU=S at DE hS;refine Am S om (i:Nat) cf ?_;generalize fL S (i:Nat) cf=A at hS;obtain⟨y,fd,e⟩:=A;refine br (fun he=>?_) (fun he=>?_)
 .rw[if_pos he]at hS;exact CW hS he
 have he:e=0:=he;subst he;rw[if_neg aG]at hS;refine ix k.l k.ops k.ps ⟨hk.ll,fun o ho=>(hk.sm o ho).mP⟩ hk.lo hk.lp hk.sl hk.ne ?_
 refine bH (fun lA=>?_) (fun lA=>?_)
 .have lA:i=k.ops.length:=by have lA:(i:Int)=((af (k.ops.map bG.enc)).length:Int):=lA;rw[bc,aad]at lA;omega
  have jU:iR k.ops i ⟨bv,0⟩=(k.ops++ [bG.mk 0 0]).set i ⟨bv,0⟩:=by rw[iR,if_pos lA,lA];simp
  rw[jU]at hS;refine⟨by simp only[cw,bc,aad,aax,aaT];omega,?_⟩
  refine⟨_,View.o1 8 [1,2,7,4,5] [] ?_,M4 k k.l (k.ops++ [bG.mk 0 0]) k.ps n i hn (by simp;omega) bv fd cf y hS⟩
  .exact .pe rfl rfl rfl (.pr rfl rfl rfl (.pt rfl rfl (.bV (by simp[cw,af,bG.enc])) (.pr rfl rfl rfl (.pm rfl rfl rfl))))
 .have aC:i<k.ops.length:=by have lA:¬(i:Int)=((af (k.ops.map bG.enc)).length:Int):=lA;rw[bc,aad]at lA;omega
  have jU:iR k.ops i ⟨bv,0⟩=k.ops.set i ⟨bv,0⟩:=by rw[iR,if_neg om]
  rw[jU]at hS;refine⟨_,View.o1 6 [1,2,3,4,5] [] ?_,M4 k k.l k.ops k.ps n i hn aC bv fd cf y hS⟩
  .exact .pe rfl rfl rfl (.pr rfl rfl rfl (.pr rfl rfl rfl (.pr rfl rfl rfl (.pm rfl rfl rfl))))
theorem AI(k:Kr)(hk:dE k.l k.ops k.ps)(n:Nat)(hn:n<k.ps.length)(bv cf:Int):body Tryz.prog c79 [dJ k.l k.ops k.ps,an .i64 (n:Nat),an .i64 bv,an .i64 cf] [] (M3 k n bv cf):=by
 refine Hm k.ops hk.lo ?_;have Sm:k.ops.length<=4194304:=hk.lo;cases ho:DI k.ops with
 |none=>
  have Sn:Ko k.ops= -1:=by rw[Ko,ho]
  have So:cY k.ops=k.ops.length:=by rw[cY,ho];rfl
  rw[Sn];refine aB (fun we=>?_) (fun we=>?_)
  .have we:k.ops.length>=60:=by have we:((k.ops.map bG.enc).length:Int)>=60:=we;rw[aad]at we;omega
   exact CW (by rw[aM,if_pos ⟨ho,we⟩]) (by decide)
  .have we:¬k.ops.length>=60:=by have we:¬((k.ops.map bG.enc).length:Int)>=60:=we;rw[aad]at we;omega
   refine⟨_,View.o 2 [0,1] [] ?_ ?_,M5 k hk n hn bv cf k.ops.length So.symm (aaj _) (fun h=>we h.2)⟩
   .have hlen:an .i64 (((k.ops.map bG.enc).length:Nat):Int)=an .i64 ((k.ops.length:Nat):Int):=by rw[aad]
    repeat(first|exact .nil|refine .ap ?_|refine .eq rfl ?_)
    refine .eq hlen.symm ?_;repeat(first|exact .nil|refine .ap ?_|refine .eq rfl ?_)
   .exact .pt rfl rfl (.eq rfl (by simp[kC])) (.pm rfl rfl rfl)
 |some i=>
  have Sn:Ko k.ops=(i:Nat):=by rw[Ko,ho]
  have So:cY k.ops=i:=by rw[cY,ho];rfl
  have Qq:=Ao ho;rw[Sn];refine⟨_,View.o1 2 [0,1] [] ?_,M5 k hk n hn bv cf i So.symm om (fun h=>by rw[ho]at h;cases h.1)⟩
  .exact .pt rfl rfl (.eq rfl (by simp[kC])) (.pm rfl rfl rfl)
theorem wF(k:Kr)(hk:dE k.l k.ops k.ps)(n:Nat)(hn:n<k.ps.length)(bv cf:Int){m:Mem}{K:CV->Mem->Prop}(h1:(aM k n bv cf).2.2≠0->K (.bF [iQ m9,cH 0,cH (aM k n bv cf).2.2]) m)(h2:(aM k n bv cf).2.2=0->K (.bF [.agg [.row m.length 9 0 none,.aa (eA (aM k n bv cf).1.ops),.aa (fC (aM k n bv cf).1.ps)],cH (aM k n bv cf).2.1,cH 0]) (m++ [.row 9 (af ((aM k n bv cf).1.l.map Obj.enc))])):
  ar Tryz.prog 79 [dJ k.l k.ops k.ps,an .i64 (n:Nat),an .i64 bv,an .i64 cf] m K:=by
 refine bC [] m.length rfl rfl rfl rfl rfl (fun i b' hi=>by simp at hi)
  (bN (cm Tryz.func79 l79 (AI k hk n hn bv cf)) fun r m1⟨r',m',hv,hq⟩=>⟨r',m',hv,hq⟩) (fun r m1 hp=>⟨aao _,?_⟩)
 rcases hp with⟨e1,rfl,rfl⟩|⟨e1,rfl,rfl⟩
 .have:=h1 e1;show K _ (iI m []);rw[cr,abI];exact this
 .have:=h2 e1;show K _ (iI m [Bk.aQ _ _]);rw[cr,Bk.kn];exact this
end Kn
def c77:LF:= ⟨42,[.tmp 6,.tmp 7],(.seq (.ai [qu 4 (.box 1),qu 5 (.box 2),qu 6 (.aD (qi 0)),qu 7 (.aD (qi 0))]) (.seq (.ai [qf 11 4 5,qw (.store 1 11 (qi (-1))),qf 12 6 5,qw (.store 1 12 (qi (-1)))]) (.seq (.bQ [qm 14 0,qu 15 (.aW 14),qf 16 0 15,qf 17 0 16,ql 18 17,qL 19 9 5,qu 20 (qc 118 [18,19]),qm 13 20,qu 21 (.ext 13 0),qu 22 (.ext 13 1),qu 23 (.ext 13 2),qm 8 21,qm 9 22,qm 10 23] [(.cons 0 none (.cons 1 none (.cons 2 none (.cons 3 none (.cons 4 none (.cons 5 none (.cons 6 (some []) (.cons 7 none (.cons 8 none (.cons 9 none (.cons 10 none (.cons 11 none (.cons 12 none (.cons 13 none .nil))))))))))))))]) (.seq (.seq (.ai [qm 24 10,qu 25 (.aF .neq 24 (qi 0))]) (.cond 25 (.seq (.ai [qm 26 10,qu 6 (.aD (qi 0)),qm 7 26]) .ret) .skip)) (.seq (.ai [qm 28 8,qf 29 1 4,ql 30 29,qf 31 2 4,ql 32 31,qm 33 9,qu 34 (qc 119 [28,30,32,33]),qm 27 34,qu 35 (.ext 27 0),qu 36 (.ext 27 1),qm 8 35,qm 10 36]) (.seq (.ai [qm 37 9,qm 38 0,qm 39 8,qm 40 10,qu 41 (qc 76 [38,39,40]),qm 6 37,qm 7 41]) .ret))))))⟩
namespace Kn
def gy(o:Obj):Obj:={o with aJ:= -1,aL:= -1}
def FE(f:R4):CV:= .rv (.agg ((Tv f).map .aa))
def AJ(l:List Obj)(f:R4)(n:Int):List Obj×Int:=de (bJ.fD f.name) l f.cL (bJ.cz f.name) n
def cI(k:Kr)(f:R4)(o:Obj):Kr×Int×Int:=
 if(aK k.l (gy o)).2.2≠0 then(k,0,(aK k.l (gy o)).2.2)
 else(cQ k (AJ (aK k.l (gy o)).1 f (aK k.l (gy o)).2.1).1 (AJ (aK k.l (gy o)).1 f (aK k.l (gy o)).2.1).2,(aK k.l (gy o)).2.1,(AJ (aK k.l (gy o)).1 f (aK k.l (gy o)).2.1).2)
structure PC(o:Obj):Prop where
 sm:o.sm
 en:o.ak=[]
theorem PC.gy{o:Obj}(h:PC o):PC (gy o):=⟨⟨h.sm.t,h.sm.d,h.sm.e,h.sm.q,h.sm.qd⟩,h.en⟩
theorem wB.make{l:List Obj}(h:wB l){o:Obj}(ho:PC o):wB (aK l o).1:=by
 have key:∀l',(∀x,x∈l'->x∈l\/x=o)->l.length<=l'.length->l'.length<=4194304->wB l':=fun l' hm hl Ei=>by
  refine⟨⟨Ei,fun x hx=>?_⟩,fun x hx=>?_⟩
  .rcases hm x hx with hx|rfl
   .exact h.mP.2 x hx
   .exact ho.sm.mP
  .rcases hm x hx with hx|rfl
   .obtain⟨es,h1,h2,h3,h4⟩:=h.en x hx;exact⟨es,h1,h2,h3,fun e he=>⟨(h4 e he).1,by have:=(h4 e he).2;omega⟩⟩
   .exact⟨[],ho.en,List.Pairwise.nil,aG,aG⟩
 have hf:=h.mP.1;unfold aK;split
 .rename_i k _;refine key _ (fun x hx=>aaI hx) aG (by simpa using hf)
 .split
  .exact⟨⟨aG,aG⟩,aG⟩
  .refine key _ (fun x hx=>by simpa using hx) aG (by simp only[aa3,aax,aaT];omega)
theorem l77:bs Tryz.prog Tryz.f77=some c77:=by kernel_rfl
def VP(a b:Int):CV:= .bF [cH a,cH b]
theorem CX(k:Kr)(p:Nat)(hw:KW k p)(f:R4)(o:Obj)(ho:PC o):
  body Tryz.prog c77 [.rv (.one (.ptr 0 0)),FE f,o.cv] [xB k p] (TX fun r m=>r=VP (cI k f o).2.1 (cI k f o).2.2/\m=[xB (cI k f o).1 p]):=by
 have hs:=wB.make hw.DL ho.gy;refine z7 k.l hw.mP (gy o) ?_;have hS:cI k f o=if(aK k.l (gy o)).2.2≠0 then(k,0,(aK k.l (gy o)).2.2)
  else(cQ k (AJ (aK k.l (gy o)).1 f (aK k.l (gy o)).2.1).1 (AJ (aK k.l (gy o)).1 f (aK k.l (gy o)).2.1).2,(aK k.l (gy o)).2.1,(AJ (aK k.l (gy o)).1 f (aK k.l (gy o)).2.1).2):=rfl
 rw[hS];clear hS;generalize aK k.l (gy o)=M at hs⊢;obtain⟨l,n,e⟩:=M;refine⟨trivial,?_⟩;refine br (fun he=>?_) (fun he=>?_)
 .rw[if_pos he];exact⟨_,_,View.o 3 [0] [] (.eq rfl .nil) (.pt rfl rfl (.eq rfl (bD _ _)) (.nil _)),rfl,rfl⟩
 .have he:e=0:=he;subst he;rw[if_neg aG];refine Jo l hs f.cL n (bJ.cz f.name) (bJ.fD f.name) (fun h=>bJ.Au f.name h) ?_
  refine nc k p hw.kr _ _ 0 rfl ?_;exact⟨_,_,View.o 3 [0] [] (.eq rfl .nil) (.pt rfl rfl (.eq rfl (bD _ _)) (.nil _)),rfl,rfl⟩
theorem sV(k:Kr)(p:Nat)(hw:KW k p)(f:R4)(o:Obj)(ho:PC o){m:Mem}(id:Nat)(hb:df m id=some (xB k p)){K:CV->Mem->Prop}(hK:K (VP (cI k f o).2.1 (cI k f o).2.2) (ba m id (xB (cI k f o).1 p))):ar Tryz.prog 77 [.rv (.one (.ptr id 0)),FE f,o.cv] m K:=
 Hy (args:=[FE f,o.cv]) (fun _=>rfl) (fun _=>rfl)
  (bN (aZ Tryz.func77 l77 (CX k p hw f o ho)) fun r m1⟨r',m',hv,hq⟩=>⟨r',m',hv,hq⟩) id hb hK
end Kn
end Go.Proofs.YtojhmadmlnfpcaaGreatDoor
