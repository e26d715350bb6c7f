/- Part 31 of 41: what the law stands on. -/
import Derived.Test.YthagjdhjmamakaaGreatDoorT16
import Derived.Test.YthagjdhjmamakaaGreatDoorT22
import Derived.Test.YthagjdhjmamakaaGreatDoorT24
import Derived.Test.YthagjdhjmamakaaGreatDoorT27
import Derived.Test.YthagjdhjmamakaaGreatDoorT30
set_option linter.unusedVariables false
set_option linter.unusedSimpArgs false
set_option linter.unnecessarySimpa false
set_option maxRecDepth 100000
set_option maxHeartbeats 64000000
namespace Go.Proofs.YthagjdhjmamakaaGreatDoor
open Go.AM Go.ChangeShapes Go.WideShapes Go.ChangeAt Go.RowKit
theorem D3(o:Obj)(hf:o.data.length<=4194304)(cU n:Int):body Tryz.prog c50 [o.cv,an .i64 cU,an .i64 n] [] (fun r m=>cw m r (.bG [XF (e8 o.ah o.data cU n).1,cD (e8 o.ah o.data cU n).2])):=by
 obtain⟨ah,data,aj,target,aG,ak,aM,am,up⟩:=o;have hf:data.length<=4194304:=hf;show body Tryz.prog c50 _ [] (fun r m=>cw m r (.bG [XF (e8 ah data cU n).1,cD (e8 ah data cU n).2]))
 refine bz (fun h1=>?_) (fun h1=>?_)
 .rw[e8,if_pos h1];exact jm (.one (.aB 1))
 refine bu (fun h2=>?_) (fun h2=>?_)
 .rw[e8,if_neg h1,if_pos h2];exact jm (.one (.aB 1))
 have hk:ah=1:=by simpa using h2
 refine aJ (fun h3=>?_) (fun h3=>?_)
 .rw[e8,if_neg h1,if_neg (by simpa using hk),if_pos (.inl h3)]
  exact jm (.one (.aB 1))
 refine aJ (fun h4=>?_) (fun h4=>?_)
 .rw[e8,if_neg h1,if_neg (by simpa using hk),if_pos (.inr h4)]
  exact jm (.one (.aB 1))
 rw[e8,if_neg h1,if_neg (by simpa using hk),if_neg (fun h=>h.elim h3 h4)]
 have h3:¬cU<0:=h3;have h4:¬n<0:=h4;obtain⟨A,rfl⟩:∃A:Nat,cU=A:=⟨cU.toNat,om⟩;obtain⟨N,rfl⟩:∃N:Nat,n=N:=⟨n.toNat,om⟩;rw[show((A:Nat):Int).toNat=A from rfl,show((N:Nat):Int).toNat=N from rfl];have GH:=mj A data.length;have hm2:=mj N (data.length-dJ A data.length);have hL:oi (an .i64 (if(data.length:Int)<(A:Int)then(data.length:Int)else(A:Int)))=some (dJ A data.length):=by rw[qn];rfl
 have hE:IntKind.i64.wrap ((if(data.length:Int)<(A:Int)then(data.length:Int)else(A:Int))+(if IntKind.i64.wrap ((data.length:Int)-(if(data.length:Int)<(A:Int)then(data.length:Int)else(A:Int)))<(N:Int)then IntKind.i64.wrap ((data.length:Int)-(if(data.length:Int)<(A:Int)then(data.length:Int)else(A:Int)))else(N:Int)))
   =((dJ A data.length+dJ N (data.length-dJ A data.length):Nat):Int):=by
  rw[qn,show(data.length:Int)-((dJ A data.length:Nat):Int)=((data.length-dJ A data.length:Nat):Int) by omega,gO om,qn,
   show((dJ A data.length:Nat):Int)+((dJ N (data.length-dJ A data.length):Nat):Int)=((dJ A data.length+dJ N (data.length-dJ A data.length):Nat):Int) by omega,gO om]
 have hH:oi (an .i64 (IntKind.i64.wrap ((if(data.length:Int)<(A:Int)then(data.length:Int)else(A:Int))+(if IntKind.i64.wrap ((data.length:Int)-(if(data.length:Int)<(A:Int)then(data.length:Int)else(A:Int)))<(N:Int)then IntKind.i64.wrap ((data.length:Int)-(if(data.length:Int)<(A:Int)then(data.length:Int)else(A:Int)))else(N:Int)))))=some (dJ A data.length+dJ N (data.length-dJ A data.length)):=by rw[hE];rfl
 refine ag hL ?_;refine ag hH ?_;refine b8 (by rw[T6,aap,aap];show dJ A data.length<=dJ A data.length+dJ N (data.length-dJ A data.length)/\dJ A data.length+dJ N (data.length-dJ A data.length)<=data.length;omega) ?_
 refine gv (wx data A N) (by simp[wx];omega) ?_
 exact jm (eh.self rfl)
theorem Lb(o:Obj)(hf:o.data.length<=4194304)(cU n:Int){m:Mem}{K:CV->Mem->Prop}(h:K (.bG [XF (e8 o.ah o.data cU n).1,cD (e8 o.ah o.data cU n).2]) m):ar Tryz.prog 50 [o.cv,an .i64 cU,an .i64 n] m K:=
 aY (aW Tryz.func50 l50 (D3 o hf cU n)) (by simp[Obj.cv,Obj.enc,an,CV.c7,CC.c7,RV.c7]) fun r m1 hf=>⟨_,hf,h⟩
def c49:LF:= ⟨44,[.cell true 2 6,.tmp 7,.tmp 8],(.seq (.ai [qu 6 (.alloc [(qd 0),(qd 0)]),qu 7 (.aD (qi 0)),qu 8 (.aD (qi 0))]) (.seq (.bT [qm 12 0,qu 13 (.aR 12),qf 14 0 13,qf 15 2 14,ql 16 15,qm 17 0,qu 18 (.aR 17),qf 19 3 18,ql 20 19,qu 21 (.b7 4 16 20),qf 22 3 21,ql 23 22,qm 24 1,qm 25 2,qu 26 (qc 89 [23,24,25]),qm 11 26,qu 27 (.ext 11 0),qu 28 (.ext 11 1),qu 9 (.alloc [(qd 0),(qd 0)]),qw (.store 2 9 27),qm 10 28] [(.cons 0 none (.cons 1 none (.cons 2 none (.cons 3 none (.cons 4 none (.cons 5 none (.cons 6 none (.cons 7 none (.cons 8 none (.cons 9 none (.cons 10 none (.cons 11 none (.cons 12 none (.cons 13 none (.zS (.cons 14 (some []) (.cons 15 none (.cons 16 none (.cons 17 none (.cons 18 (some [11,9,8,4]) (.cons 19 (some []) (.cons 20 none .nil))))))) (.cons 18 (some [11,9,8,4]) (.cons 14 (some []) (.cons 15 none (.cons 16 none (.cons 17 none (.cons 19 (some []) (.cons 20 none .nil))))))))))))))))))))))]) (.cL (.seq (.seq (.ai [qm 29 10,qu 30 (.aE .neq 29 (qi 0))]) (.cond 30 (.seq (.ai [qu 31 (.build [(qd 0),(qd 0)] []),qm 32 10,qw (.store 2 6 31),qu 7 (.aD (qi 0)),qm 8 32]) .ret) .skip)) (.seq (.bT [qL 33 2 9,qm 34 0,qu 35 (.aR 34),qf 36 0 35,qf 37 1 36,ql 38 37,qf 39 0 9,ql 40 39,qu 41 (.b7 2 38 40),qf 42 0 41,ql 43 42,qw (.store 2 6 33),qm 7 43,qu 8 (.aD (qi 0))] [(.cons 0 none (.cons 1 none (.cons 2 none (.cons 3 none (.cons 4 none (.cons 5 none (.cons 6 none (.cons 7 none (.cons 8 none (.cons 9 none (.cons 10 none (.cons 11 (some [10,8,7,5]) (.cons 12 none (.cons 13 none .nil))))))))))))))]) .ret)))))⟩
def c56:LF:= ⟨30,[.tmp 6],(.seq (.ai [qu 6 (.aD (qi 0))]) (.seq (.seq (.ai [qm 7 2,qu 8 (.aE .eql 7 (qi 0))]) (.cond 8 (.seq (.ai [qm 9 0,qm 10 0,qu 11 (.aR 10),qf 12 0 11,qL 13 3 12,qu 14 (qc 52 [13]),qu 15 (.aR 9),qf 16 0 15,qw (.store 3 16 14)]) (.bT [qm 17 0,qu 18 (.aR 17),qf 19 0 18,qf 20 2 19,ql 21 20,qm 22 0,qu 23 (.aR 22),qf 24 3 23,ql 25 24,qm 26 1,qu 27 (.b7 4 21 25),qf 28 3 27,qw (.store 1 28 26)] [(.cons 0 none (.cons 1 none (.cons 2 none (.cons 3 none (.cons 4 none (.cons 5 none (.cons 6 none (.cons 7 none (.cons 8 none (.cons 9 none (.cons 10 none (.cons 11 none (.cons 12 (some []) .nil)))))))))))))])) .skip)) (.seq (.ai [qm 29 2,qm 6 29]) .ret)))⟩
def c62:LF:= ⟨23,[.tmp 6],(.seq (.ai [qu 6 (.aD (qi 0))]) (.seq (.seq (.ai [qm 7 2,qu 8 (.aE .eql 7 (qi 0))]) (.cond 8 (.seq (.ai [qm 9 0,qm 10 0,qu 11 (.aR 10),qf 12 0 11,qL 13 3 12,qu 14 (qc 52 [13]),qu 15 (.aR 9),qf 16 0 15,qw (.store 3 16 14)]) (.ai [qm 17 0,qm 18 1,qu 19 (.aR 17),qf 20 0 19,qf 21 0 20,qw (.store 1 21 18)])) .skip)) (.seq (.ai [qm 22 2,qm 6 22]) .ret)))⟩
namespace Kn
structure Cl where
 aM:Int
 ah:Int
 fd:Int
 fT:Int
 n:Int
 bj:Int
 aQ:Int
 bZ:bD.di
 data:List Int
structure An where
 ix:Int
 n:Int
 m:Int
 data:List (List Dt)
def An.no(e:Int):An:=⟨e,0,0,[]⟩
def An.enc(a:An):List Dt:=[.val (.int .i64 a.ix),.val (.int .i64 a.n),.val (.int .i64 a.m),.sl 1 a.data]
def An.rv(a:An):RV:= .agg (a.enc.map .aa)
def An.cv(a:An):CV:= .rv a.rv
def Cl.enc(c:Cl):List Dt:=[.val (.int .i64 c.aM),.val (.int .i64 c.ah),.val (.int .i64 c.fd),.val (.int .i64 c.fT),.val (.int .i64 c.n),.val (.int .i64 c.bj),.val (.int .i64 c.aQ),.val (.string (bD.cu c.bZ)),.sl 1 (dh c.data)]
def Cl.cv(c:Cl):CV:= .rv (.agg (c.enc.map .aa))
def cB(c:Cl):Bk:= .var (c.enc.map .aa)
def xC(k:Kr)(p:Nat):List Dt:=[da k.l,eF k.ops,fM k.ps,.val (.int .i64 (p:Nat))]
def xB(k:Kr)(p:Nat):Bk:= .var ((xC k p).map .aa)
def kh(a b:Int):Int:=IntKind.i64.wrap ((BitVec.ofInt 64 a&&&BitVec.ofInt 64 b).toNat:Int)
def QW(a b:Int):Int:=IntKind.i64.wrap ((BitVec.ofInt 64 a|||BitVec.ofInt 64 b).toNat:Int)
def ft(l:List fq)(fd need:Int):(Int×Int)×Int:=(((Tb.kM (l.map m4) fd need).1.eJ,(Tb.kM (l.map m4) fd need).1.cn),(Tb.kM (l.map m4) fd need).2)
def qv(l:List fq)(fd:Int):(Int×Int)×Int:=(((Tb.ei (l.map m4) fd).1.eJ,(Tb.ei (l.map m4) fd).1.cn),(Tb.ei (l.map m4) fd).2)
def vl(l:List fq)(fd:Int):List fq×Int:=((Tb.mh (l.map m4) fd).1.map Ng,(Tb.mh (l.map m4) fd).2)
def Lc(l:List fq)(fd:Int):List fq×Int×Int:=((Tb.tp (l.map m4) fd).1.map Ng,(Tb.tp (l.map m4) fd).2.1,(Tb.tp (l.map m4) fd).2.2)
def y5(l:List fq)(fd n:Int):List fq×Int:=((Tb.uV (l.map m4) fd n).1.map Ng,(Tb.uV (l.map m4) fd n).2)
def QX(c:Int×Int):RV:= .agg [.aa (.val (.int .i64 c.1)),.aa (.val (.int .i64 c.2))]
theorem vm(l:List fq):ma l=Tb.d7 (l.map m4):=by show _=CV.rv (.one (.aa (Tb.oY (l.map m4))));rw[xz];rfl
theorem Bp(l:List fq)(fd need:Int){m:Mem}{K:CV->Mem->Prop}(h:K (.bG [QX (ft l fd need).1,cD (ft l fd need).2]) m):ar Tryz.prog 89 [ma l,an .i64 fd,an .i64 need] m K:=by rw[vm];exact Tb.jp _ fd need h
theorem NA(l:List fq)(fd:Int){m:Mem}{K:CV->Mem->Prop}(h:K (.bG [QX (qv l fd).1,cD (qv l fd).2]) m):ar Tryz.prog 66 [ma l,an .i64 fd] m K:=by rw[vm];exact Tb.uR _ fd h
theorem HT(l:List fq)(hl:l.length<=2097152)(fd:Int){m:Mem}{K:CV->Mem->Prop}(h:K (.bG [J3 (vl l fd).1,cD (vl l fd).2]) m):ar Tryz.prog 53 [ma l,an .i64 fd] m K:=by
 rw[vm];refine Tb.Kv _ (by simpa using hl) fd ?_
 rw[od];exact h
theorem NB(l:List fq)(hl:l.length<=2097152)(fd:Int){m:Mem}{K:CV->Mem->Prop}(h:K (.bG [J3 (Lc l fd).1,cD (Lc l fd).2.1,cD (Lc l fd).2.2]) m):ar Tryz.prog 54 [ma l,an .i64 fd] m K:=by
 rw[vm];refine Tb.Qt _ (by simpa using hl) fd ?_
 rw[od];exact h
theorem HU(l:List fq)(hl:l.length<=2097152)(fd n:Int){m:Mem}{K:CV->Mem->Prop}(h:K (.bG [J3 (y5 l fd n).1,cD (y5 l fd n).2]) m):ar Tryz.prog 55 [ma l,an .i64 fd,an .i64 n] m K:=by
 rw[vm];refine Tb.KA _ (by simpa using hl) fd n ?_
 rw[od];exact h
def jT(ops:List bC)(z:Int):Int:=match ops[z.toNat]? with|some o=>o.bt|none=>0
def nD(ops:List bC)(z:Int):Int:=match ops[z.toNat]? with|some o=>o.cU|none=>0
def bn(k:Kr)(p:Nat)(fd need:Int):(Int×Int)×Int×Int:=
 if(ft (aV k.ps p) fd need).2≠0 then((0,0),0,(ft (aV k.ps p) fd need).2)else((ft (aV k.ps p) fd need).1,jT k.ops (ft (aV k.ps p) fd need).1.1,0)
def iz(k:Kr)(p:Nat)(l:List fq)(e:Int):Kr:=if e=0 then⟨k.l,k.ops,eQ k.ps p l⟩else k
def cW(k:Kr)(l:List Obj)(e:Int):Kr:=if e=0 then⟨l,k.ops,k.ps⟩else k
structure KW(k:Kr)(p:Nat):Prop where
 kr:dC k.l k.ops k.ps
 l40:k.l.length<=40
 Cm:vh k.l
 lk:mi (k.l.map Obj.ob)
 nm:∀o,o∈k.l->∀e,e∈o.aj.map mH->e.1.size<=12
 hp:p<k.ps.length
 cap:∀s,s∈aV k.ps p->s.has=true->∃n j:Nat,s.eJ=n/\n<k.ops.length/\jT k.ops n=j/\j<k.l.length
theorem iA{ps:List bi}{p:Nat}(hp:p<ps.length):aV ps p=ps[p].bd:=by rw[aV,tq hp]
theorem vn{l:List fq}{fd need:Int}(h:(ft l fd need).2=0):∃s,s∈l/\s.has=true/\(ft l fd need).1=(s.eJ,s.cn):=by
 unfold ft Tb.kM at h⊢;split at h
 .simp at h
 .rename_i hn;rw[if_neg hn];unfold Tb.ei at h⊢;cases hx:(if 0<=fd then(l.map m4)[fd.toNat]? else none)with
  |none=>rw[hx]at h;simp at h
  |some s=>
   rw[hx]at h;simp only at h⊢;cases hh:s.has with
   |false=>rw[hh]at h;simp at h
   |true=>
    split at hx
    .rw[O6]at hx;cases hy:l[fd.toNat]? with
     |none=>rw[hy]at hx;cases hx
     |some t=>
      rw[hy]at hx;simp only[XS,XQ]at hx;subst hx;exact⟨t,O9 hy,hh,rfl⟩
    .cases hx
theorem KW.at{k:Kr}{p:Nat}(h:KW k p){fd need:Int}(he:(ft (aV k.ps p) fd need).2=0):∃n j:Nat,(ft (aV k.ps p) fd need).1.1=n/\n<k.ops.length/\jT k.ops n=j/\j<k.l.length:=by
 obtain⟨s,hs,hh,e⟩:=vn he;obtain⟨n,j,h1,h2⟩:=h.cap s hs hh;exact⟨n,j,by rw[e];exact h1,h2⟩
theorem KW.held{k:Kr}{p:Nat}(h:KW k p){fd need:Int}(he:(bn k p fd need).2.2=0):∃n j:Nat,(bn k p fd need).1.1=n/\n<k.ops.length/\(bn k p fd need).2.1=j/\j<k.l.length/\jT k.ops n=j:=by
 unfold bn at he⊢;split at he
 .rename_i hn;exact absurd he hn
 .rename_i hn;rw[if_neg hn];obtain⟨n,j,h1,h2,h3,h4⟩:=h.at (Decidable.of_not_not hn);exact⟨n,j,h1,h2,by show jT k.ops _=_;rw[h1];exact h3,h4,h3⟩
theorem KW.mU{k:Kr}{p:Nat}(h:KW k p):kg k.l:=⟨h.kr.ll,fun o ho=>(h.kr.sm o ho).mU⟩
theorem gA{m:Mem}{Z:Nat->Prop}{id esz:Nat}{p:Option Nat}{ds:List (List Dt)}(hz:Z id)(hm:m[id]? =some (.row esz (af ds))):dm m Z p (.row id esz 0 none) (.sl esz ds):=by
 refine dm.row id esz 0 none (af ds) ds hz hm (by simp[af]) (fun i cs es h1 h2=>?_) (fun i cs es j c d h1 h2 h3 h4=>?_)
 .simp only[af,O6,h2,XS,XQ]at h1;subst h1;simp
 .simp only[af,O6,h2,XS,XQ]at h1;subst h1;rw[O6,h4]at h3;cases h3;exact .aa _
theorem bx(k:Kr)(p:Nat):xB k p≠.aZ:=by intro h;cases h
theorem cr(c:Cl):cB c≠.aZ:=by intro h;cases h
theorem QY{σ:Nat->Nat}{m:Mem}{Z:Nat->Prop}{id p:Nat}{a b c:CC}{k:Kr}(ha:dm m Z (some id) a (da k.l))(hb:dm m Z (some id) b (eF k.ops))(hc:dm m Z (some id) c (fM k.ps)):
  lU σ m Z id (.var [a,b,c,.aa (.val (.int .i64 (p:Nat)))]) (xB k p):=
 eG.var (.cons (.eu ha) (.cons (.eu hb) (.cons (.eu hc) (.cons (.aP (.aa _)) .nil))))
theorem Ga{f:Nat}{args:List CV}(ha:∀σ,args.map (CV.aP σ)=args){k k':Kr}{p:Nat}{r0:CV}(hr:∀σ,r0.aP σ=r0)(hc:ar Tryz.prog f (.rv (.one (.ptr 0 0))::args) [xB k p] (fun r m=>r=r0/\m=[xB k' p])){m:Mem}(id:Nat)(hb:cR m id=some (xB k p)){K:CV->Mem->Prop}(hK:K r0 (a7 m id (xB k' p))):ar Tryz.prog f (.rv (.one (.ptr id 0))::args) m K:=by
 have hid:id<m.length:=by rw[aT]at hb;exact(Hy.1 hb).1
 refine bv [id] m.length rfl rfl rfl (by simp[eX,hid]) (args0:= .rv (.one (.ptr 0 0))::args) (by rw[aay,ha];rfl) (fun i b' hi=>?_) hc (fun r1 m1 zO=>?_)
 .cases i with
  |zero=>
   simp at hi;subst hi;refine .inr ⟨fun h=>h,_,?_,.eq rfl (bx _ _)⟩
   rw[aT]at hb;exact hb
  |succ i=>simp at hi
 .obtain⟨rfl,rfl⟩:=zO;refine⟨QN _,?_⟩;rw[hr];show K _ (cV m [id] [xB k' p]);rw[AO];exact hK
theorem Pf{f:Nat}{args:List CV}(ha:∀σ,args.map (CV.aP σ)=args){k k':Kr}{p:Nat}{c:Cl}{r0:CV}(hr:∀σ,r0.aP σ=r0)(hc:ar Tryz.prog f (.rv (.one (.ptr 0 0)):: .rv (.one (.ptr 1 0))::args) [xB k p,cB c] (fun r m=>r=r0/\m=[xB k' p,cB c])){m:Mem}(i j:Nat)(pG:fQ [i,j]=true)(aF:eX m.length [i,j]=true)(hi:cR m i=some (xB k p))(hj:cR m j=some (cB c)){K:CV->Mem->Prop}(hK:K r0 (cV m [i,j] [xB k' p,cB c])):ar Tryz.prog f (.rv (.one (.ptr i 0)):: .rv (.one (.ptr j 0))::args) m K:=by
 refine bv [i,j] m.length rfl rfl pG aF (args0:= .rv (.one (.ptr 0 0)):: .rv (.one (.ptr 1 0))::args) (by rw[aay,aay,ha];rfl) (fun n b' hn=>?_) hc (fun r1 m1 zO=>?_)
 .match n,hn with
  |0,hn=>
   cases hn;refine .inr ⟨fun h=>h,_,?_,.eq rfl (bx _ _)⟩
   rw[aT]at hi;exact hi
  |1,hn=>
   cases hn;refine .inr ⟨fun h=>h,_,?_,.eq rfl (cr _)⟩
   rw[aT]at hj;exact hj
  |n+2,hn=>simp at hn
 .obtain⟨rfl,rfl⟩:=zO;refine⟨QN _,?_⟩;rw[hr];exact hK
theorem l49:bq Tryz.prog Tryz.f49=some c49.er:=by kernel_rfl
def NC(x:(Int×Int)×Int×Int):CV:= .bG [QX x.1,cD x.2.1,cD x.2.2]
def X1:LC:=bI (bI c49.code)
def X2:LC:=oV X1
theorem Bq(k:Kr)(p:Nat)(hw:KW k p)(fd need:Int):
  aw Tryz.prog 1 X2 (nb Tryz.prog c49.ki (fun r m=>r=NC (bn k p fd need)/\∃ex,m=xB k p::ex))
   ⟨lB 44 [(0,.rv (.one (.ptr 0 0))),(6,.rv (.one (.ptr 1 0))),(9,.rv (.one (.ptr 2 0))),(10,an .i64 (ft (aV k.ps p) fd need).2)],
    [xB k p,.var [.aa (.val (.int .i64 0)),.aa (.val (.int .i64 0))],.var [.aa (.val (.int .i64 (ft (aV k.ps p) fd need).1.1)),.aa (.val (.int .i64 (ft (aV k.ps p) fd need).1.2))]]⟩:=by
 have G4:= @KW.at k p hw fd need;have Fq:bn k p fd need=if(ft (aV k.ps p) fd need).2≠0 then((0,0),0,(ft (aV k.ps p) fd need).2)else((ft (aV k.ps p) fd need).1,jT k.ops (ft (aV k.ps p) fd need).1.1,0):=rfl
 rw[Fq];clear Fq;generalize ft (aV k.ps p) fd need=w at G4⊢;obtain⟨⟨o,r⟩,e⟩:=w;refine bu (fun he=>?_) (fun he=>?_)
 .rw[if_pos he];exact⟨rfl,_,rfl⟩
 .have he:e=0:=he;subst he;obtain⟨n,j,h1,h2,h3,h4⟩:=G4 rfl;have h1:o=n:=h1;subst h1;rw[if_neg aK];refine ag (tJ h2) ?_;have ho:jT k.ops (n:Int)=k.ops[n].bt:=by rw[jT,XO,tq h2]
  refine⟨⟨rfl,ag (tJ h2) rfl,rfl,rfl,trivial⟩,?_⟩;show _=NC ((_,_),jT k.ops (n:Int),0)/\_;rw[ho];exact⟨rfl,_,rfl⟩
theorem rD(k:Kr)(p:Nat)(hw:KW k p)(fd need:Int):
  body Tryz.prog c49 [.rv (.one (.ptr 0 0)),an .i64 fd,an .i64 need] [xB k p] (fun r m=>r=NC (bn k p fd need)/\∃ex,m=xB k p::ex):=by
 have hg:=dQ hw.hp;rw[<-iA hw.hp]at hg;refine ag hg ?_;refine⟨?_,?_⟩
 .refine Bp _ fd need ?_;refine⟨trivial,⟨rfl,ag hg rfl,rfl,rfl,trivial⟩,trivial,_,View.o1 3 [0,1,2] [] ?_,Bq k p hw fd need⟩
  .exact .pt rfl rfl (.eq rfl (bx _ _)) (.pe rfl rfl rfl (.pm rfl rfl rfl))
 .refine⟨⟨rfl,ag hg rfl,rfl,rfl,trivial⟩,?_⟩;refine Bp _ fd need ?_;refine⟨trivial,trivial,_,View.o1 3 [0,1,2] [] ?_,Bq k p hw fd need⟩
  .exact .pt rfl rfl (.eq rfl (bx _ _)) (.pe rfl rfl rfl (.pm rfl rfl rfl))
theorem jp(k:Kr)(p:Nat)(hw:KW k p)(fd need:Int){m:Mem}(id:Nat)(hb:cR m id=some (xB k p)){K:CV->Mem->Prop}(hK:K (NC (bn k p fd need)) m):
  ar Tryz.prog 49 [.rv (.one (.ptr id 0)),an .i64 fd,an .i64 need] m K:=
 fl (args0:=[.rv (.one (.ptr 0 0)),an .i64 fd,an .i64 need]) (cs:=xC k p) id hb rfl rfl
  (fun _ hK=>eM rfl (cf Tryz.func49 l49 (rD k p hw fd need)) hK) hK
theorem l56:bq Tryz.prog Tryz.f56=some c56:=by kernel_rfl
theorem l62:bq Tryz.prog Tryz.f62=some c62:=by kernel_rfl
def TX(Q:CV->Mem->Prop)(r:CV)(m:Mem):Prop:=∃r' m',View 1 ⟨[r],m⟩ ⟨[r'],m'⟩/\Q r' m'
theorem D4{ps:List bi}{n:Nat}(hn:n<ps.length)(y:List fq):a7 (af (ps.map bi.enc)) n ((bi.enc ⟨ps[n].a8,ps[n].fenced,ps[n].code,y⟩).map .aa)=af ((eQ ps n y).map bi.enc):=by
 have:eQ ps n y=ps.set n {ps[n]with bd:=y}:=by rw[eQ,tq hn]
 rw[this,bg,af,af,aaG,aaG]
theorem D5(k:Kr)(p:Nat)(hk:dC k.l k.ops k.ps)(hp:p<k.ps.length)(l:List fq)(e:Int):
  body Tryz.prog c56 [.rv (.one (.ptr 0 0)),ma l,an .i64 e] [xB k p] (TX fun r m=>r=an .i64 e/\m=[xB (iz k p l e) p]):=by
 refine bz (fun he=>?_) (fun he=>?_)
 .have he:e=0:=he;subst he;refine gP k.l k.ops k.ps ⟨hk.ll,fun o ho=>(hk.sm o ho).mU⟩ hk.lo hk.lp hk.sl hk.ne ?_
  refine ag (k9 hp) ?_;refine ag (bA bi.enc k.ps hp) ?_;refine⟨trivial,_,_,View.o 4 [0] [1,2,3] (.eq rfl .nil) (.pt rfl rfl (QY (k:=iz k p l 0) (gA rfl rfl) (gA rfl rfl) (gA rfl ?_)) (.nil _)),rfl,rfl⟩;refine congrArg (fun x=>some (Bk.row 4 x)) ?_
  exact D4 hp l
 .have he:¬e=0:=he;refine⟨_,_,View.o 1 [0] [] (.eq rfl .nil) (.pt rfl rfl (.eq rfl (bx _ _)) (.nil _)),rfl,?_⟩;rw[iz,if_neg he]
theorem Br(k:Kr)(p:Nat)(hk:dC k.l k.ops k.ps)(hp:p<k.ps.length)(l:List fq)(e:Int){m:Mem}(id:Nat)(hb:cR m id=some (xB k p)){K:CV->Mem->Prop}(hK:K (an .i64 e) (a7 m id (xB (iz k p l e) p))):
  ar Tryz.prog 56 [.rv (.one (.ptr id 0)),ma l,an .i64 e] m K:=
 Ga (args:=[ma l,an .i64 e]) (fun _=>rfl) (fun _=>rfl)
  (bK (aW Tryz.func56 l56 (D5 k p hk hp l e)) fun r m1⟨r',m',hv,hq⟩=>⟨r',m',hv,hq⟩) id hb hK
theorem y6(k:Kr)(p:Nat)(hk:dC k.l k.ops k.ps)(l:List Obj)(e:Int):
  body Tryz.prog c62 [.rv (.one (.ptr 0 0)),cq l,an .i64 e] [xB k p] (TX fun r m=>r=an .i64 e/\m=[xB (cW k l e) p]):=by
 refine bz (fun he=>?_) (fun he=>?_)
 .have he:e=0:=he;subst he;refine gP k.l k.ops k.ps ⟨hk.ll,fun o ho=>(hk.sm o ho).mU⟩ hk.lo hk.lp hk.sl hk.ne ?_
  exact⟨_,_,View.o 4 [0] [1,2,3] (.eq rfl .nil) (.pt rfl rfl (QY (k:=cW k l 0) (.aa _) (gA rfl rfl) (gA rfl rfl)) (.nil _)),rfl,rfl⟩
 .have he:¬e=0:=he;refine⟨_,_,View.o 1 [0] [] (.eq rfl .nil) (.pt rfl rfl (.eq rfl (bx _ _)) (.nil _)),rfl,?_⟩;rw[cW,if_neg he]
theorem ml(k:Kr)(p:Nat)(hk:dC k.l k.ops k.ps)(l:List Obj)(e:Int){m:Mem}(id:Nat)(hb:cR m id=some (xB k p)){K:CV->Mem->Prop}(hK:K (an .i64 e) (a7 m id (xB (cW k l e) p))):
  ar Tryz.prog 62 [.rv (.one (.ptr id 0)),cq l,an .i64 e] m K:=
 Ga (args:=[cq l,an .i64 e]) (fun _=>rfl) (fun _=>rfl)
  (bK (aW Tryz.func62 l62 (y6 k p hk l e)) fun r m1⟨r',m',hv,hq⟩=>⟨r',m',hv,hq⟩) id hb hK
end Kn
namespace Kn
def Ld(k:Kr)(n:Nat)(bt cn:Int)(r:CV)(m:Mem):Prop:=∃r' m',View 0 ⟨[r],m⟩ ⟨[r'],m'⟩/\
 (((aH k n bt cn).2.2≠0/\r'= .bG [ib lg,cD 0,cD (aH k n bt cn).2.2]/\m'=[])\/
 ((aH k n bt cn).2.2=0/\r'= .bG [.agg [.row 0 9 0 none,.aa (eF (aH k n bt cn).1.ops),.aa (fM (aH k n bt cn).1.ps)],cD (aH k n bt cn).2.1,cD 0]/\m'=[.row 9 (af ((aH k n bt cn).1.l.map Obj.enc))]))
theorem ZS{σ:Nat->Nat}{m:Mem}{Z:Nat->Prop}{a a' b b' c c':RV}(h1:vZ σ m Z a a')(h2:vZ σ m Z b b')(h0:vZ σ m Z c c'):pS σ m Z (.bG [a,b,c]) (.bG [a',b',c']):=
 .bG rfl fun i r r' e1 e2=>by
  match i,e1,e2 with
  |0,e1,e2=>cases e1;cases e2;exact h1
  |1,e1,e2=>cases e1;cases e2;exact h2
  |2,e1,e2=>cases e1;cases e2;exact h0
  |n+3,e1,e2=>simp at e1
theorem X3{σ:Nat->Nat}{m:Mem}{Z:Nat->Prop}{x y:Int}:pS σ m Z (.bG [.agg [.aB,.aB,.aB],cD x,cD y]) (.bG [ib lg,cD x,cD y]):=
 ZS (.agg rfl fun i c c' h1 h2=>by
  match i,h1,h2 with
  |0,h1,h2=>cases h1;cases h2;exact .eu (.aB 9)
  |1,h1,h2=>cases h1;cases h2;exact .eu (.aB 2)
  |2,h1,h2=>cases h1;cases h2;exact .eu (.aB 4)
  |n+3,h1,h2=>simp at h1) (.one (.aP (.aa _))) (.one (.aP (.aa _)))
def ZT(k:Kr)(n:Nat)(bt cn:Int):Ex->St->Prop:=nb Tryz.prog c65.ki (Ld k n bt cn)
theorem Bs{k:Kr}{n:Nat}{bt cn e:Int}{m:Mem}(h:aH k n bt cn=(lg,0,e))(he:e≠0):Ld k n bt cn (.bG [.agg [.aB,.aB,.aB],cD 0,cD e]) m:=by refine⟨_,[],View.of m.length [] [] rfl rfl rfl rfl rfl rfl (.put X3 .nil) (.nil _),.inl ?_⟩;rw[h];exact⟨he,rfl,rfl⟩
theorem Le(k:Kr)(l:List Obj)(O:List bC)(ps:List bi)(n i:Nat)(hn:n<ps.length)(hi:i<O.length)(bt fd cn:Int)(y:List fq)(h:aH k n bt cn=(⟨l,O.set i ⟨bt,0⟩,eQ ps n y⟩,fd,0)):
  aw Tryz.prog 0 ZB (ZT k n bt cn)
   ⟨lB 74 [(1,an .i64 (n:Nat)),(2,an .i64 bt),(8,.rv (.one (.ptr 0 0))),(11,an .i64 (i:Nat)),(12,ma y),(13,an .i64 fd),(15,.rv (.one (.ptr 4 0)))],ZC l O ps⟩:=by
 refine ag (yG hi) ?_;have ho:=bA bC.enc O hi;generalize O[i]=x at ho;obtain⟨xo,xa⟩:=x;refine ag ho ?_;refine ag (k9 hn) ?_;have hp:=bA bi.enc ps hn;have pi:eQ ps n y=ps.set n {ps[n]with bd:=y}:=by rw[eQ,tq hn]
 rw[pi]at h;generalize ps[n]=z at hp h;obtain⟨a8,fenced,cd,bd⟩:=z;refine ag hp ?_;refine⟨.bG [.agg [.row 0 9 0 none,.aa (eF (O.set i ⟨bt,0⟩)),.aa (fM (ps.set n ⟨a8,fenced,cd,y⟩))],cD fd,cD 0],[.row 9 (af (l.map Obj.enc))],
  View.o 5 [1] [2,3] (.put (ZS (.agg rfl fun j c c' h1 h2=>?_) (.one (.aP (.aa _))) (.one (.aP (.aa _)))) .nil) (.pn rfl rfl rfl),.inr ⟨by rw[h],by rw[h],by rw[h]⟩⟩
 match j,h1,h2 with
 |0,h1,h2=>cases h1;cases h2;exact .aP (σ:=sg [1] 5) (.row 0 9 0 none)
 |1,h1,h2=>
  cases h1;cases h2;refine .eu (gA rfl (congrArg (fun x=>some (Bk.row 2 x)) ?_))
  show a7 (af (O.map bC.enc)) i ((bC.enc ⟨bt,0⟩).map .aa)=_;rw[bg,af,af,aaG,aaG]
 |2,h1,h2=>
  cases h1;cases h2;refine .eu (gA rfl (congrArg (fun x=>some (Bk.row 4 x)) ?_))
  show a7 (af (ps.map bi.enc)) n ((bi.enc ⟨a8,fenced,cd,y⟩).map .aa)=_;rw[bg,af,af,aaG,aaG]
 |n+3,h1,h2=>simp at h1
theorem Lg(k:Kr)(hk:dC k.l k.ops k.ps)(n:Nat)(hn:n<k.ps.length)(bt cn:Int)(i:Nat)(hi:i=dK k.ops)(Ou:i<=k.ops.length)(iV:¬(DF k.ops=none/\k.ops.length>=60)):
  aw Tryz.prog 0 Xu (ZT k n bt cn)
   ⟨lB 74 [(1,an .i64 (n:Nat)),(2,an .i64 bt),(3,an .i64 cn),(4,.rv (.one (.ptr 0 0))),(8,.rv (.one (.ptr 1 0))),(11,an .i64 (i:Nat))],[.var ((kC k.l k.ops k.ps).map .aa),.var [.aB,.aB,.aB]]⟩:=by
 have FV:aV k.ps n=k.ps[n].bd:=by rw[aV,tq hn]
 have Fp:=hk.sl _ (XP hn);have Qu:k.ops.length<=4194304:=hk.lo;have hS:aH k n bt cn=if(eI k.ps[n].bd (i:Nat) cn).2.2≠0 then(lg,0,(eI k.ps[n].bd (i:Nat) cn).2.2)
   else(⟨k.l,iM k.ops i ⟨bt,0⟩,eQ k.ps n (eI k.ps[n].bd (i:Nat) cn).1⟩,(eI k.ps[n].bd (i:Nat) cn).2.1,0):=by
  rw[aH,if_neg iV,FV,<-hi]
 refine ag (dQ hn) ?_;generalize k.ps[n].bd=S at Fp hS;refine yO S om (i:Nat) cn ?_;generalize eI S (i:Nat) cn=A at hS;obtain⟨y,fd,e⟩:=A;refine bu (fun he=>?_) (fun he=>?_)
 .rw[if_pos he]at hS;exact Bs hS he
 have he:e=0:=he;subst he;rw[if_neg aK]at hS;refine gP k.l k.ops k.ps ⟨hk.ll,fun o ho=>(hk.sm o ho).mU⟩ hk.lo hk.lp hk.sl hk.ne ?_
 refine bz (fun ko=>?_) (fun ko=>?_)
 .have ko:i=k.ops.length:=by have ko:(i:Int)=((af (k.ops.map bC.enc)).length:Int):=ko;rw[bb,LW]at ko;omega
  have ji:iM k.ops i ⟨bt,0⟩=(k.ops++ [bC.mk 0 0]).set i ⟨bt,0⟩:=by rw[iM,if_pos ko,ko];simp
  rw[ji]at hS;refine⟨by simp only[ct,bb,LW,XR,aat];omega,?_⟩
  refine⟨_,View.o1 8 [1,2,7,4,5] [] ?_,Le k k.l (k.ops++ [bC.mk 0 0]) k.ps n i hn (by simp;omega) bt fd cn y hS⟩
  .exact .pe rfl rfl rfl (.pr rfl rfl rfl (.pt rfl rfl (.bR (by simp[ct,af,bC.enc])) (.pr rfl rfl rfl (.pm rfl rfl rfl))))
 .have aF:i<k.ops.length:=by have ko:¬(i:Int)=((af (k.ops.map bC.enc)).length:Int):=ko;rw[bb,LW]at ko;omega
  have ji:iM k.ops i ⟨bt,0⟩=k.ops.set i ⟨bt,0⟩:=by rw[iM,if_neg om]
  rw[ji]at hS;refine⟨_,View.o1 6 [1,2,3,4,5] [] ?_,Le k k.l k.ops k.ps n i hn aF bt fd cn y hS⟩
  .exact .pe rfl rfl rfl (.pr rfl rfl rfl (.pr rfl rfl rfl (.pr rfl rfl rfl (.pm rfl rfl rfl))))
theorem y7(k:Kr)(hk:dC k.l k.ops k.ps)(n:Nat)(hn:n<k.ps.length)(bt cn:Int):body Tryz.prog c65 [dX k.l k.ops k.ps,an .i64 (n:Nat),an .i64 bt,an .i64 cn] [] (Ld k n bt cn):=by
 refine FU k.ops hk.lo ?_;have Qu:k.ops.length<=4194304:=hk.lo;cases ho:DF k.ops with
 |none=>
  have Qv:IN k.ops= -1:=by rw[IN,ho]
  have Qw:dK k.ops=k.ops.length:=by rw[dK,ho];rfl
  rw[Qv];refine aJ (fun uT=>?_) (fun uT=>?_)
  .have uT:k.ops.length>=60:=by have uT:((k.ops.map bC.enc).length:Int)>=60:=uT;rw[LW]at uT;omega
   exact Bs (by rw[aH,if_pos ⟨ho,uT⟩]) (by decide)
  .have uT:¬k.ops.length>=60:=by have uT:¬((k.ops.map bC.enc).length:Int)>=60:=uT;rw[LW]at uT;omega
   refine⟨_,View.o 2 [0,1] [] ?_ ?_,Lg k hk n hn bt cn k.ops.length Qw.symm (QN _) (fun h=>uT h.2)⟩
   .have hlen:an .i64 (((k.ops.map bC.enc).length:Nat):Int)=an .i64 ((k.ops.length:Nat):Int):=by rw[LW]
    repeat(first|exact .nil|refine .aq ?_|refine .eq rfl ?_)
    refine .eq hlen.symm ?_;repeat(first|exact .nil|refine .aq ?_|refine .eq rfl ?_)
   .exact .pt rfl rfl (.eq rfl (by simp[kC])) (.pm rfl rfl rfl)
 |some i=>
  have Qv:IN k.ops=(i:Nat):=by rw[IN,ho]
  have Qw:dK k.ops=i:=by rw[dK,ho];rfl
  have Ou:=DG ho;rw[Qv];refine⟨_,View.o1 2 [0,1] [] ?_,Lg k hk n hn bt cn i Qw.symm om (fun h=>by rw[ho]at h;cases h.1)⟩
  .exact .pt rfl rfl (.eq rfl (by simp[kC])) (.pm rfl rfl rfl)
theorem vo(k:Kr)(hk:dC k.l k.ops k.ps)(n:Nat)(hn:n<k.ps.length)(bt cn:Int){m:Mem}{K:CV->Mem->Prop}(h1:(aH k n bt cn).2.2≠0->K (.bG [ib lg,cD 0,cD (aH k n bt cn).2.2]) m)(h2:(aH k n bt cn).2.2=0->K (.bG [.agg [.row m.length 9 0 none,.aa (eF (aH k n bt cn).1.ops),.aa (fM (aH k n bt cn).1.ps)],cD (aH k n bt cn).2.1,cD 0]) (m++ [.row 9 (af ((aH k n bt cn).1.l.map Obj.enc))])):
  ar Tryz.prog 65 [dX k.l k.ops k.ps,an .i64 (n:Nat),an .i64 bt,an .i64 cn] m K:=by
 refine bv [] m.length rfl rfl rfl rfl rfl (fun i b' hi=>by simp at hi)
  (bK (cf Tryz.func65 l65 (y7 k hk n hn bt cn)) fun r m1⟨r',m',hv,hq⟩=>⟨r',m',hv,hq⟩) (fun r m1 hp=>⟨XL _,?_⟩)
 rcases hp with⟨e1,rfl,rfl⟩|⟨e1,rfl,rfl⟩
 .have:=h1 e1;show K _ (gX m []);rw[cg,aa6];exact this
 .have:=h2 e1;show K _ (gX m [Bk.aP _ _]);rw[cg,Bk.jz];exact this
end Kn
def c63:LF:= ⟨42,[.tmp 6,.tmp 7],(.seq (.ai [qu 4 (.box 1),qu 5 (.box 2),qu 6 (.aD (qi 0)),qu 7 (.aD (qi 0))]) (.seq (.ai [qf 11 4 5,qw (.store 1 11 (qi (-1))),qf 12 6 5,qw (.store 1 12 (qi (-1)))]) (.seq (.bT [qm 14 0,qu 15 (.aR 14),qf 16 0 15,qf 17 0 16,ql 18 17,qL 19 9 5,qu 20 (qc 104 [18,19]),qm 13 20,qu 21 (.ext 13 0),qu 22 (.ext 13 1),qu 23 (.ext 13 2),qm 8 21,qm 9 22,qm 10 23] [(.cons 0 none (.cons 1 none (.cons 2 none (.cons 3 none (.cons 4 none (.cons 5 none (.cons 6 (some []) (.cons 7 none (.cons 8 none (.cons 9 none (.cons 10 none (.cons 11 none (.cons 12 none (.cons 13 none .nil))))))))))))))]) (.seq (.seq (.ai [qm 24 10,qu 25 (.aE .neq 24 (qi 0))]) (.cond 25 (.seq (.ai [qm 26 10,qu 6 (.aD (qi 0)),qm 7 26]) .ret) .skip)) (.seq (.ai [qm 28 8,qf 29 1 4,ql 30 29,qf 31 2 4,ql 32 31,qm 33 9,qu 34 (qc 105 [28,30,32,33]),qm 27 34,qu 35 (.ext 27 0),qu 36 (.ext 27 1),qm 8 35,qm 10 36]) (.seq (.ai [qm 37 9,qm 38 0,qm 39 8,qm 40 10,qu 41 (qc 62 [38,39,40]),qm 6 37,qm 7 41]) .ret))))))⟩
namespace Kn
def fW(o:Obj):Obj:={o with aG:= -1,aM:= -1}
def D6(f:R4):CV:= .rv (.agg ((RQ f).map .aa))
def y8(l:List Obj)(f:R4)(n:Int):List Obj×Int:=cP (bD.fo f.name) l f.cE (bD.cu f.name) n
def cK(k:Kr)(f:R4)(o:Obj):Kr×Int×Int:=
 if(aI k.l (fW o)).2.2≠0 then(k,0,(aI k.l (fW o)).2.2)
 else(cW k (y8 (aI k.l (fW o)).1 f (aI k.l (fW o)).2.1).1 (y8 (aI k.l (fW o)).1 f (aI k.l (fW o)).2.1).2,(aI k.l (fW o)).2.1,(y8 (aI k.l (fW o)).1 f (aI k.l (fW o)).2.1).2)
structure ND(o:Obj):Prop where
 sm:o.sm
 en:o.aj=[]
theorem ND.fW{o:Obj}(h:ND o):ND (fW o):=⟨⟨h.sm.t,h.sm.d,h.sm.e,h.sm.q,h.sm.qd⟩,h.en⟩
theorem vh.make{l:List Obj}(h:vh l){o:Obj}(ho:ND o):vh (aI l o).1:=by
 have key:∀l',(∀x,x∈l'->x∈l\/x=o)->l.length<=l'.length->l'.length<=4194304->vh l':=fun l' hm hl GM=>by
  refine⟨⟨GM,fun x hx=>?_⟩,fun x hx=>?_⟩
  .rcases hm x hx with hx|rfl
   .exact h.mU.2 x hx
   .exact ho.sm.mU
  .rcases hm x hx with hx|rfl
   .obtain⟨es,h1,h2,h3,h4⟩:=h.en x hx;exact⟨es,h1,h2,h3,fun e he=>⟨(h4 e he).1,by have:=(h4 e he).2;omega⟩⟩
   .exact⟨[],ho.en,List.Pairwise.nil,aK,aK⟩
 have hf:=h.mU.1;unfold aI;split
 .rename_i k _;refine key _ (fun x hx=>aag hx) aK (by simpa using hf)
 .split
  .exact⟨⟨aK,aK⟩,aK⟩
  .refine key _ (fun x hx=>by simpa using hx) aK (by simp only[aaw,XR,aat];omega)
theorem l63:bq Tryz.prog Tryz.f63=some c63:=by kernel_rfl
def Uj(a b:Int):CV:= .bG [cD a,cD b]
theorem Bt(k:Kr)(p:Nat)(hw:KW k p)(f:R4)(o:Obj)(ho:ND o):
  body Tryz.prog c63 [.rv (.one (.ptr 0 0)),D6 f,o.cv] [xB k p] (TX fun r m=>r=Uj (cK k f o).2.1 (cK k f o).2.2/\m=[xB (cK k f o).1 p]):=by
 have hs:=vh.make hw.Cm ho.fW;refine yA k.l hw.mU (fW o) ?_;have hS:cK k f o=if(aI k.l (fW o)).2.2≠0 then(k,0,(aI k.l (fW o)).2.2)
  else(cW k (y8 (aI k.l (fW o)).1 f (aI k.l (fW o)).2.1).1 (y8 (aI k.l (fW o)).1 f (aI k.l (fW o)).2.1).2,(aI k.l (fW o)).2.1,(y8 (aI k.l (fW o)).1 f (aI k.l (fW o)).2.1).2):=rfl
 rw[hS];clear hS;generalize aI k.l (fW o)=M at hs⊢;obtain⟨l,n,e⟩:=M;refine⟨trivial,?_⟩;refine bu (fun he=>?_) (fun he=>?_)
 .rw[if_pos he];exact⟨_,_,View.o 3 [0] [] (.eq rfl .nil) (.pt rfl rfl (.eq rfl (bx _ _)) (.nil _)),rfl,rfl⟩
 .have he:e=0:=he;subst he;rw[if_neg aK];refine HN l hs f.cE n (bD.cu f.name) (bD.fo f.name) (fun h=>bD.yS f.name h) ?_
  refine ml k p hw.kr _ _ 0 rfl ?_;exact⟨_,_,View.o 3 [0] [] (.eq rfl .nil) (.pt rfl rfl (.eq rfl (bx _ _)) (.nil _)),rfl,rfl⟩
theorem rK(k:Kr)(p:Nat)(hw:KW k p)(f:R4)(o:Obj)(ho:ND o){m:Mem}(id:Nat)(hb:cR m id=some (xB k p)){K:CV->Mem->Prop}(hK:K (Uj (cK k f o).2.1 (cK k f o).2.2) (a7 m id (xB (cK k f o).1 p))):ar Tryz.prog 63 [.rv (.one (.ptr id 0)),D6 f,o.cv] m K:=
 Ga (args:=[D6 f,o.cv]) (fun _=>rfl) (fun _=>rfl)
  (bK (aW Tryz.func63 l63 (Bt k p hw f o ho)) fun r m1⟨r',m',hv,hq⟩=>⟨r',m',hv,hq⟩) id hb hK
end Kn
end Go.Proofs.YthagjdhjmamakaaGreatDoor
