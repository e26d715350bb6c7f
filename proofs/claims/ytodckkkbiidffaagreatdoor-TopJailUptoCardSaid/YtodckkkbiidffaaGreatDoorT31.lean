/- Part 31 of 39: what the law stands on. -/
import Derived.Test.YtodckkkbiidffaaGreatDoorT16
import Derived.Test.YtodckkkbiidffaaGreatDoorT22
import Derived.Test.YtodckkkbiidffaaGreatDoorT24
import Derived.Test.YtodckkkbiidffaaGreatDoorT27
import Derived.Test.YtodckkkbiidffaaGreatDoorT30
set_option linter.unusedVariables false
set_option linter.unusedSimpArgs false
set_option linter.unnecessarySimpa false
set_option maxRecDepth 100000
set_option maxHeartbeats 64000000
namespace Go.Proofs.YtodckkkbiidffaaGreatDoor
open Go.AM Go.ChangeShapes Go.WideShapes Go.ChangeAt Go.RowKit
theorem CU(o:Obj)(hf:o.data.length<=4194304)(cT n:Int):body Tryz.prog c57 [o.cv,an .i64 cT,an .i64 n] [] (fun r m=>cw m r (.bF [Wb (gm o.ah o.data cT n).1,cC (gm o.ah o.data cT n).2])):=by
 obtain⟨ah,data,aj,target,aC,ak,aM,am,up⟩:=o;have hf:data.length<=4194304:=hf;show body Tryz.prog c57 _ [] (fun r m=>cw m r (.bF [Wb (gm ah data cT n).1,cC (gm ah data cT n).2]))
 refine bA (fun h1=>?_) (fun h1=>?_)
 .rw[gm,if_pos h1];exact i9 (.one (.aB 1))
 refine bt (fun h2=>?_) (fun h2=>?_)
 .rw[gm,if_neg h1,if_pos h2];exact i9 (.one (.aB 1))
 have hk:ah=1:=by simpa using h2
 refine aJ (fun h3=>?_) (fun h3=>?_)
 .rw[gm,if_neg h1,if_neg (by simpa using hk),if_pos (.inl h3)]
  exact i9 (.one (.aB 1))
 refine aJ (fun h4=>?_) (fun h4=>?_)
 .rw[gm,if_neg h1,if_neg (by simpa using hk),if_pos (.inr h4)]
  exact i9 (.one (.aB 1))
 rw[gm,if_neg h1,if_neg (by simpa using hk),if_neg (fun h=>h.elim h3 h4)]
 have h3:¬cT<0:=h3;have h4:¬n<0:=h4;obtain⟨A,rfl⟩:∃A:Nat,cT=A:=⟨cT.toNat,om⟩;obtain⟨N,rfl⟩:∃N:Nat,n=N:=⟨n.toNat,om⟩;rw[show((A:Nat):Int).toNat=A from rfl,show((N:Nat):Int).toNat=N from rfl];have Fm:=lU A data.length;have hm2:=lU N (data.length-df A data.length);have hL:nC (an .i64 (if(data.length:Int)<(A:Int)then(data.length:Int)else(A:Int)))=some (df A data.length):=by rw[pL];rfl
 have hE:IntKind.i64.wrap ((if(data.length:Int)<(A:Int)then(data.length:Int)else(A:Int))+(if IntKind.i64.wrap ((data.length:Int)-(if(data.length:Int)<(A:Int)then(data.length:Int)else(A:Int)))<(N:Int)then IntKind.i64.wrap ((data.length:Int)-(if(data.length:Int)<(A:Int)then(data.length:Int)else(A:Int)))else(N:Int)))
   =((df A data.length+df N (data.length-df A data.length):Nat):Int):=by
  rw[pL,show(data.length:Int)-((df A data.length:Nat):Int)=((data.length-df A data.length:Nat):Int) by omega,l9 om,pL,
   show((df A data.length:Nat):Int)+((df N (data.length-df A data.length):Nat):Int)=((df A data.length+df N (data.length-df A data.length):Nat):Int) by omega,l9 om]
 have hH:nC (an .i64 (IntKind.i64.wrap ((if(data.length:Int)<(A:Int)then(data.length:Int)else(A:Int))+(if IntKind.i64.wrap ((data.length:Int)-(if(data.length:Int)<(A:Int)then(data.length:Int)else(A:Int)))<(N:Int)then IntKind.i64.wrap ((data.length:Int)-(if(data.length:Int)<(A:Int)then(data.length:Int)else(A:Int)))else(N:Int)))))=some (df A data.length+df N (data.length-df A data.length)):=by rw[hE];rfl
 refine ag hL ?_;refine ag hH ?_;refine cj (by rw[SD,aak,aak];show df A data.length<=df A data.length+df N (data.length-df A data.length)/\df A data.length+df N (data.length-df A data.length)<=data.length;omega) ?_
 refine gl (CI data A N) (by simp[CI];omega) ?_
 exact i9 (d8.self rfl)
theorem JS(o:Obj)(hf:o.data.length<=4194304)(cT n:Int){m:Mem}{K:CV->Mem->Prop}(h:K (.bF [Wb (gm o.ah o.data cT n).1,cC (gm o.ah o.data cT n).2]) m):aq Tryz.prog 57 [o.cv,an .i64 cT,an .i64 n] m K:=
 aY (aX Tryz.func57 l57 (CU o hf cT n)) (by simp[Obj.cv,Obj.enc,an,CV.c6,CC.c6,RV.c6]) fun r m1 hf=>⟨_,hf,h⟩
def c56:LF:= ⟨44,[.cell true 2 6,.tmp 7,.tmp 8],(.seq (.ai [qu 6 (.alloc [(qd 0),(qd 0)]),qu 7 (.aF (qi 0)),qu 8 (.aF (qi 0))]) (.seq (.bU [qm 12 0,qu 13 (.aT 12),qf 14 0 13,qf 15 2 14,ql 16 15,qm 17 0,qu 18 (.aT 17),qf 19 3 18,ql 20 19,qu 21 (.cr 4 16 20),qf 22 3 21,ql 23 22,qm 24 1,qm 25 2,qu 26 (qc 96 [23,24,25]),qm 11 26,qu 27 (.ext 11 0),qu 28 (.ext 11 1),qu 9 (.alloc [(qd 0),(qd 0)]),qw (.store 2 9 27),qm 10 28] [(.cons 0 none (.cons 1 none (.cons 2 none (.cons 3 none (.cons 4 none (.cons 5 none (.cons 6 none (.cons 7 none (.cons 8 none (.cons 9 none (.cons 10 none (.cons 11 none (.cons 12 none (.cons 13 none (.yU (.cons 14 (some []) (.cons 15 none (.cons 16 none (.cons 17 none (.cons 18 (some [11,9,8,4]) (.cons 19 (some []) (.cons 20 none .nil))))))) (.cons 18 (some [11,9,8,4]) (.cons 14 (some []) (.cons 15 none (.cons 16 none (.cons 17 none (.cons 19 (some []) (.cons 20 none .nil))))))))))))))))))))))]) (.cI (.seq (.seq (.ai [qm 29 10,qu 30 (.aH .neq 29 (qi 0))]) (.cond 30 (.seq (.ai [qu 31 (.build [(qd 0),(qd 0)] []),qm 32 10,qw (.store 2 6 31),qu 7 (.aF (qi 0)),qm 8 32]) .ret) .skip)) (.seq (.bU [qL 33 2 9,qm 34 0,qu 35 (.aT 34),qf 36 0 35,qf 37 1 36,ql 38 37,qf 39 0 9,ql 40 39,qu 41 (.cr 2 38 40),qf 42 0 41,ql 43 42,qw (.store 2 6 33),qm 7 43,qu 8 (.aF (qi 0))] [(.cons 0 none (.cons 1 none (.cons 2 none (.cons 3 none (.cons 4 none (.cons 5 none (.cons 6 none (.cons 7 none (.cons 8 none (.cons 9 none (.cons 10 none (.cons 11 (some [10,8,7,5]) (.cons 12 none (.cons 13 none .nil))))))))))))))]) .ret)))))⟩
def c63:LF:= ⟨30,[.tmp 6],(.seq (.ai [qu 6 (.aF (qi 0))]) (.seq (.seq (.ai [qm 7 2,qu 8 (.aH .eql 7 (qi 0))]) (.cond 8 (.seq (.ai [qm 9 0,qm 10 0,qu 11 (.aT 10),qf 12 0 11,qL 13 3 12,qu 14 (qc 59 [13]),qu 15 (.aT 9),qf 16 0 15,qw (.store 3 16 14)]) (.bU [qm 17 0,qu 18 (.aT 17),qf 19 0 18,qf 20 2 19,ql 21 20,qm 22 0,qu 23 (.aT 22),qf 24 3 23,ql 25 24,qm 26 1,qu 27 (.cr 4 21 25),qf 28 3 27,qw (.store 1 28 26)] [(.cons 0 none (.cons 1 none (.cons 2 none (.cons 3 none (.cons 4 none (.cons 5 none (.cons 6 none (.cons 7 none (.cons 8 none (.cons 9 none (.cons 10 none (.cons 11 none (.cons 12 (some []) .nil)))))))))))))])) .skip)) (.seq (.ai [qm 29 2,qm 6 29]) .ret)))⟩
def c69:LF:= ⟨23,[.tmp 6],(.seq (.ai [qu 6 (.aF (qi 0))]) (.seq (.seq (.ai [qm 7 2,qu 8 (.aH .eql 7 (qi 0))]) (.cond 8 (.seq (.ai [qm 9 0,qm 10 0,qu 11 (.aT 10),qf 12 0 11,qL 13 3 12,qu 14 (qc 59 [13]),qu 15 (.aT 9),qf 16 0 15,qw (.store 3 16 14)]) (.ai [qm 17 0,qm 18 1,qu 19 (.aT 17),qf 20 0 19,qf 21 0 20,qw (.store 1 21 18)])) .skip)) (.seq (.ai [qm 22 2,qm 6 22]) .ret)))⟩
namespace Kn
structure Cl where
 aM:Int
 ah:Int
 fd:Int
 fM:Int
 n:Int
 bi:Int
 aR:Int
 bm:bp.cQ
 data:List Int
structure An where
 f4:Int
 n:Int
 m:Int
 data:List (List Dt)
def An.no(e:Int):An:=⟨e,0,0,[]⟩
def An.enc(a:An):List Dt:=[.val (.int .i64 a.f4),.val (.int .i64 a.n),.val (.int .i64 a.m),.sl 1 a.data]
def An.rv(a:An):RV:= .agg (a.enc.map .aa)
def An.cv(a:An):CV:= .rv a.rv
def Cl.enc(c:Cl):List Dt:=[.val (.int .i64 c.aM),.val (.int .i64 c.ah),.val (.int .i64 c.fd),.val (.int .i64 c.fM),.val (.int .i64 c.n),.val (.int .i64 c.bi),.val (.int .i64 c.aR),.val (.string (bp.b7 c.bm)),.sl 1 (fB c.data)]
def Cl.cv(c:Cl):CV:= .rv (.agg (c.enc.map .aa))
def cB(c:Cl):Bk:= .var (c.enc.map .aa)
def xC(k:Kr)(p:Nat):List Dt:=[c7 k.l,eB k.ops,fE k.ps,.val (.int .i64 (p:Nat))]
def xB(k:Kr)(p:Nat):Bk:= .var ((xC k p).map .aa)
def iK(a b:Int):Int:=IntKind.i64.wrap ((BitVec.ofInt 64 a&&&BitVec.ofInt 64 b).toNat:Int)
def Pz(a b:Int):Int:=IntKind.i64.wrap ((BitVec.ofInt 64 a|||BitVec.ofInt 64 b).toNat:Int)
def gJ(l:List fq)(fd need:Int):(Int×Int)×Int:=(((Tb.mX (l.map oz) fd need).1.eE,(Tb.mX (l.map oz) fd need).1.cn),(Tb.mX (l.map oz) fd need).2)
def pP(l:List fq)(fd:Int):(Int×Int)×Int:=(((Tb.d9 (l.map oz) fd).1.eE,(Tb.d9 (l.map oz) fd).1.cn),(Tb.d9 (l.map oz) fd).2)
def uA(l:List fq)(fd:Int):List fq×Int:=((Tb.lR (l.map oz) fd).1.map LY,(Tb.lR (l.map oz) fd).2)
def JT(l:List fq)(fd:Int):List fq×Int×Int:=((Tb.sy (l.map oz) fd).1.map LY,(Tb.sy (l.map oz) fd).2.1,(Tb.sy (l.map oz) fd).2.2)
def JU(l:List fq)(fd n:Int):List fq×Int:=((Tb.xX (l.map oz) fd n).1.map LY,(Tb.xX (l.map oz) fd n).2)
def PB(c:Int×Int):RV:= .agg [.aa (.val (.int .i64 c.1)),.aa (.val (.int .i64 c.2))]
theorem uB(l:List fq):lL l=Tb.dZ (l.map oz):=by show _=CV.rv (.one (.aa (Tb.oy (l.map oz))));rw[wy];rfl
theorem Ar(l:List fq)(fd need:Int){m:Mem}{K:CV->Mem->Prop}(h:K (.bF [PB (gJ l fd need).1,cC (gJ l fd need).2]) m):aq Tryz.prog 96 [lL l,an .i64 fd,an .i64 need] m K:=by rw[uB];exact Tb.je _ fd need h
theorem Mm(l:List fq)(fd:Int){m:Mem}{K:CV->Mem->Prop}(h:K (.bF [PB (pP l fd).1,cC (pP l fd).2]) m):aq Tryz.prog 73 [lL l,an .i64 fd] m K:=by rw[uB];exact Tb.ua _ fd h
theorem Gz(l:List fq)(hl:l.length<=2097152)(fd:Int){m:Mem}{K:CV->Mem->Prop}(h:K (.bF [IL (uA l fd).1,cC (uA l fd).2]) m):aq Tryz.prog 60 [lL l,an .i64 fd] m K:=by
 rw[uB];refine Tb.Jc _ (by simpa using hl) fd ?_
 rw[nz];exact h
theorem Mn(l:List fq)(hl:l.length<=2097152)(fd:Int){m:Mem}{K:CV->Mem->Prop}(h:K (.bF [IL (JT l fd).1,cC (JT l fd).2.1,cC (JT l fd).2.2]) m):aq Tryz.prog 61 [lL l,an .i64 fd] m K:=by
 rw[uB];refine Tb.O8 _ (by simpa using hl) fd ?_
 rw[nz];exact h
theorem GA(l:List fq)(hl:l.length<=2097152)(fd n:Int){m:Mem}{K:CV->Mem->Prop}(h:K (.bF [IL (JU l fd n).1,cC (JU l fd n).2]) m):aq Tryz.prog 62 [lL l,an .i64 fd,an .i64 n] m K:=by
 rw[uB];refine Tb.Jg _ (by simpa using hl) fd n ?_
 rw[nz];exact h
def kq(ops:List bD)(z:Int):Int:=match ops[z.toNat]? with|some o=>o.br|none=>0
def m8(ops:List bD)(z:Int):Int:=match ops[z.toNat]? with|some o=>o.cT|none=>0
def bv(k:Kr)(p:Nat)(fd need:Int):(Int×Int)×Int×Int:=
 if(gJ (aW k.ps p) fd need).2≠0 then((0,0),0,(gJ (aW k.ps p) fd need).2)else((gJ (aW k.ps p) fd need).1,kq k.ops (gJ (aW k.ps p) fd need).1.1,0)
def iL(k:Kr)(p:Nat)(l:List fq)(e:Int):Kr:=if e=0 then⟨k.l,k.ops,eV k.ps p l⟩else k
def cV(k:Kr)(l:List Obj)(e:Int):Kr:=if e=0 then⟨l,k.ops,k.ps⟩else k
structure KW(k:Kr)(p:Nat):Prop where
 kr:dz k.l k.ops k.ps
 l40:k.l.length<=40
 Bg:uy k.l
 lk:lT (k.l.map Obj.ob)
 nm:∀o,o∈k.l->∀e,e∈o.aj.map ma->e.1.size<=12
 hp:p<k.ps.length
 cap:∀s,s∈aW k.ps p->s.has=true->∃n j:Nat,s.eE=n/\n<k.ops.length/\kq k.ops n=j/\j<k.l.length
theorem io{ps:List bj}{p:Nat}(hp:p<ps.length):aW ps p=ps[p].bd:=by rw[aW,sA hp]
theorem uC{l:List fq}{fd need:Int}(h:(gJ l fd need).2=0):∃s,s∈l/\s.has=true/\(gJ l fd need).1=(s.eE,s.cn):=by
 unfold gJ Tb.mX at h⊢;split at h
 .simp at h
 .rename_i hn;rw[if_neg hn];unfold Tb.d9 at h⊢;cases hx:(if 0<=fd then(l.map oz)[fd.toNat]? else none)with
  |none=>rw[hx]at h;simp at h
  |some s=>
   rw[hx]at h;simp only at h⊢;cases hh:s.has with
   |false=>rw[hh]at h;simp at h
   |true=>
    split at hx
    .rw[NO]at hx;cases hy:l[fd.toNat]? with
     |none=>rw[hy]at hx;cases hx
     |some t=>
      rw[hy]at hx;simp only[Wn,Wm]at hx;subst hx;exact⟨t,NQ hy,hh,rfl⟩
    .cases hx
theorem KW.at{k:Kr}{p:Nat}(h:KW k p){fd need:Int}(he:(gJ (aW k.ps p) fd need).2=0):∃n j:Nat,(gJ (aW k.ps p) fd need).1.1=n/\n<k.ops.length/\kq k.ops n=j/\j<k.l.length:=by
 obtain⟨s,hs,hh,e⟩:=uC he;obtain⟨n,j,h1,h2⟩:=h.cap s hs hh;exact⟨n,j,by rw[e];exact h1,h2⟩
theorem KW.held{k:Kr}{p:Nat}(h:KW k p){fd need:Int}(he:(bv k p fd need).2.2=0):∃n j:Nat,(bv k p fd need).1.1=n/\n<k.ops.length/\(bv k p fd need).2.1=j/\j<k.l.length/\kq k.ops n=j:=by
 unfold bv at he⊢;split at he
 .rename_i hn;exact absurd he hn
 .rename_i hn;rw[if_neg hn];obtain⟨n,j,h1,h2,h3,h4⟩:=h.at (Decidable.of_not_not hn);exact⟨n,j,h1,h2,by show kq k.ops _=_;rw[h1];exact h3,h4,h3⟩
theorem KW.mz{k:Kr}{p:Nat}(h:KW k p):jV k.l:=⟨h.kr.ll,fun o ho=>(h.kr.sm o ho).mz⟩
theorem gq{m:Mem}{Z:Nat->Prop}{id esz:Nat}{p:Option Nat}{ds:List (List Dt)}(hz:Z id)(hm:m[id]? =some (.row esz (af ds))):dj m Z p (.row id esz 0 none) (.sl esz ds):=by
 refine dj.row id esz 0 none (af ds) ds hz hm (by simp[af]) (fun i cs es h1 h2=>?_) (fun i cs es j c d h1 h2 h3 h4=>?_)
 .simp only[af,NO,h2,Wn,Wm]at h1;subst h1;simp
 .simp only[af,NO,h2,Wn,Wm]at h1;subst h1;rw[NO,h4]at h3;cases h3;exact .aa _
theorem bx(k:Kr)(p:Nat):xB k p≠.aO:=by intro h;cases h
theorem ct(c:Cl):cB c≠.aO:=by intro h;cases h
theorem PC{σ:Nat->Nat}{m:Mem}{Z:Nat->Prop}{id p:Nat}{a b c:CC}{k:Kr}(ha:dj m Z (some id) a (c7 k.l))(hb:dj m Z (some id) b (eB k.ops))(hc:dj m Z (some id) c (fE k.ps)):
  lA σ m Z id (.var [a,b,c,.aa (.val (.int .i64 (p:Nat)))]) (xB k p):=
 eC.var (.cons (.eZ ha) (.cons (.eZ hb) (.cons (.eZ hc) (.cons (.aQ (.aa _)) .nil))))
theorem EP{f:Nat}{args:List CV}(ha:∀σ,args.map (CV.aQ σ)=args){k k':Kr}{p:Nat}{r0:CV}(hr:∀σ,r0.aQ σ=r0)(hc:aq Tryz.prog f (.rv (.one (.ptr 0 0))::args) [xB k p] (fun r m=>r=r0/\m=[xB k' p])){m:Mem}(id:Nat)(hb:cR m id=some (xB k p)){K:CV->Mem->Prop}(hK:K r0 (aZ m id (xB k' p))):aq Tryz.prog f (.rv (.one (.ptr id 0))::args) m K:=by
 have hid:id<m.length:=by rw[aU]at hb;exact(Gf.1 hb).1
 refine bw [id] m.length rfl rfl rfl (by simp[eR,hid]) (args0:= .rv (.one (.ptr 0 0))::args) (by rw[aar,ha];rfl) (fun i b' hi=>?_) hc (fun r1 m1 yQ=>?_)
 .cases i with
  |zero=>
   simp at hi;subst hi;refine .inr ⟨fun h=>h,_,?_,.eq rfl (bx _ _)⟩
   rw[aU]at hb;exact hb
  |succ i=>simp at hi
 .obtain⟨rfl,rfl⟩:=yQ;refine⟨Pq _,?_⟩;rw[hr];show K _ (cU m [id] [xB k' p]);rw[zJ];exact hK
theorem NW{f:Nat}{args:List CV}(ha:∀σ,args.map (CV.aQ σ)=args){k k':Kr}{p:Nat}{c:Cl}{r0:CV}(hr:∀σ,r0.aQ σ=r0)(hc:aq Tryz.prog f (.rv (.one (.ptr 0 0)):: .rv (.one (.ptr 1 0))::args) [xB k p,cB c] (fun r m=>r=r0/\m=[xB k' p,cB c])){m:Mem}(i j:Nat)(o8:fI [i,j]=true)(aE:eR m.length [i,j]=true)(hi:cR m i=some (xB k p))(hj:cR m j=some (cB c)){K:CV->Mem->Prop}(hK:K r0 (cU m [i,j] [xB k' p,cB c])):aq Tryz.prog f (.rv (.one (.ptr i 0)):: .rv (.one (.ptr j 0))::args) m K:=by
 refine bw [i,j] m.length rfl rfl o8 aE (args0:= .rv (.one (.ptr 0 0)):: .rv (.one (.ptr 1 0))::args) (by rw[aar,aar,ha];rfl) (fun n b' hn=>?_) hc (fun r1 m1 yQ=>?_)
 .match n,hn with
  |0,hn=>
   cases hn;refine .inr ⟨fun h=>h,_,?_,.eq rfl (bx _ _)⟩
   rw[aU]at hi;exact hi
  |1,hn=>
   cases hn;refine .inr ⟨fun h=>h,_,?_,.eq rfl (ct _)⟩
   rw[aU]at hj;exact hj
  |n+2,hn=>simp at hn
 .obtain⟨rfl,rfl⟩:=yQ;refine⟨Pq _,?_⟩;rw[hr];exact hK
theorem l56:bs Tryz.prog Tryz.f56=some c56.er:=by kernel_rfl
def Mo(x:(Int×Int)×Int×Int):CV:= .bF [PB x.1,cC x.2.1,cC x.2.2]
def Wx:LC:=bH (bH c56.code)
def Wy:LC:=ov Wx
theorem As(k:Kr)(p:Nat)(hw:KW k p)(fd need:Int):
  aw Tryz.prog 1 Wy (mJ Tryz.prog c56.jW (fun r m=>r=Mo (bv k p fd need)/\∃ex,m=xB k p::ex))
   ⟨kR 44 [(0,.rv (.one (.ptr 0 0))),(6,.rv (.one (.ptr 1 0))),(9,.rv (.one (.ptr 2 0))),(10,an .i64 (gJ (aW k.ps p) fd need).2)],
    [xB k p,.var [.aa (.val (.int .i64 0)),.aa (.val (.int .i64 0))],.var [.aa (.val (.int .i64 (gJ (aW k.ps p) fd need).1.1)),.aa (.val (.int .i64 (gJ (aW k.ps p) fd need).1.2))]]⟩:=by
 have FI:= @KW.at k p hw fd need;have D7:bv k p fd need=if(gJ (aW k.ps p) fd need).2≠0 then((0,0),0,(gJ (aW k.ps p) fd need).2)else((gJ (aW k.ps p) fd need).1,kq k.ops (gJ (aW k.ps p) fd need).1.1,0):=rfl
 rw[D7];clear D7;generalize gJ (aW k.ps p) fd need=w at FI⊢;obtain⟨⟨o,r⟩,e⟩:=w;refine bt (fun he=>?_) (fun he=>?_)
 .rw[if_pos he];exact⟨rfl,_,rfl⟩
 .have he:e=0:=he;subst he;obtain⟨n,j,h1,h2,h3,h4⟩:=FI rfl;have h1:o=n:=h1;subst h1;rw[if_neg aI];refine ag (sO h2) ?_;have ho:kq k.ops (n:Int)=k.ops[n].br:=by rw[kq,Wk,sA h2]
  refine⟨⟨rfl,ag (sO h2) rfl,rfl,rfl,trivial⟩,?_⟩;show _=Mo ((_,_),kq k.ops (n:Int),0)/\_;rw[ho];exact⟨rfl,_,rfl⟩
theorem qU(k:Kr)(p:Nat)(hw:KW k p)(fd need:Int):
  body Tryz.prog c56 [.rv (.one (.ptr 0 0)),an .i64 fd,an .i64 need] [xB k p] (fun r m=>r=Mo (bv k p fd need)/\∃ex,m=xB k p::ex):=by
 have hg:=dM hw.hp;rw[<-io hw.hp]at hg;refine ag hg ?_;refine⟨?_,?_⟩
 .refine Ar _ fd need ?_;refine⟨trivial,⟨rfl,ag hg rfl,rfl,rfl,trivial⟩,trivial,_,View.o1 3 [0,1,2] [] ?_,As k p hw fd need⟩
  .exact .pt rfl rfl (.eq rfl (bx _ _)) (.pe rfl rfl rfl (.pm rfl rfl rfl))
 .refine⟨⟨rfl,ag hg rfl,rfl,rfl,trivial⟩,?_⟩;refine Ar _ fd need ?_;refine⟨trivial,trivial,_,View.o1 3 [0,1,2] [] ?_,As k p hw fd need⟩
  .exact .pt rfl rfl (.eq rfl (bx _ _)) (.pe rfl rfl rfl (.pm rfl rfl rfl))
theorem je(k:Kr)(p:Nat)(hw:KW k p)(fd need:Int){m:Mem}(id:Nat)(hb:cR m id=some (xB k p)){K:CV->Mem->Prop}(hK:K (Mo (bv k p fd need)) m):
  aq Tryz.prog 56 [.rv (.one (.ptr id 0)),an .i64 fd,an .i64 need] m K:=
 fc (args0:=[.rv (.one (.ptr 0 0)),an .i64 fd,an .i64 need]) (cs:=xC k p) id hb rfl rfl
  (fun _ hK=>eH rfl (ce Tryz.func56 l56 (qU k p hw fd need)) hK) hK
theorem l63:bs Tryz.prog Tryz.f63=some c63:=by kernel_rfl
theorem l69:bs Tryz.prog Tryz.f69=some c69:=by kernel_rfl
def TX(Q:CV->Mem->Prop)(r:CV)(m:Mem):Prop:=∃r' m',View 1 ⟨[r],m⟩ ⟨[r'],m'⟩/\Q r' m'
theorem CW{ps:List bj}{n:Nat}(hn:n<ps.length)(y:List fq):aZ (af (ps.map bj.enc)) n ((bj.enc ⟨ps[n].a7,ps[n].fenced,ps[n].code,y⟩).map .aa)=af ((eV ps n y).map bj.enc):=by
 have:eV ps n y=ps.set n {ps[n]with bd:=y}:=by rw[eV,sA hn]
 rw[this,bg,af,af,aay,aay]
theorem CX(k:Kr)(p:Nat)(hk:dz k.l k.ops k.ps)(hp:p<k.ps.length)(l:List fq)(e:Int):
  body Tryz.prog c63 [.rv (.one (.ptr 0 0)),lL l,an .i64 e] [xB k p] (TX fun r m=>r=an .i64 e/\m=[xB (iL k p l e) p]):=by
 refine bA (fun he=>?_) (fun he=>?_)
 .have he:e=0:=he;subst he;refine gD k.l k.ops k.ps ⟨hk.ll,fun o ho=>(hk.sm o ho).mz⟩ hk.lo hk.lp hk.sl hk.ne ?_
  refine ag (kM hp) ?_;refine ag (bC bj.enc k.ps hp) ?_;refine⟨trivial,_,_,View.o 4 [0] [1,2,3] (.eq rfl .nil) (.pt rfl rfl (PC (k:=iL k p l 0) (gq rfl rfl) (gq rfl rfl) (gq rfl ?_)) (.nil _)),rfl,rfl⟩;refine congrArg (fun x=>some (Bk.row 4 x)) ?_
  exact CW hp l
 .have he:¬e=0:=he;refine⟨_,_,View.o 1 [0] [] (.eq rfl .nil) (.pt rfl rfl (.eq rfl (bx _ _)) (.nil _)),rfl,?_⟩;rw[iL,if_neg he]
theorem Au(k:Kr)(p:Nat)(hk:dz k.l k.ops k.ps)(hp:p<k.ps.length)(l:List fq)(e:Int){m:Mem}(id:Nat)(hb:cR m id=some (xB k p)){K:CV->Mem->Prop}(hK:K (an .i64 e) (aZ m id (xB (iL k p l e) p))):
  aq Tryz.prog 63 [.rv (.one (.ptr id 0)),lL l,an .i64 e] m K:=
 EP (args:=[lL l,an .i64 e]) (fun _=>rfl) (fun _=>rfl)
  (bK (aX Tryz.func63 l63 (CX k p hk hp l e)) fun r m1⟨r',m',hv,hq⟩=>⟨r',m',hv,hq⟩) id hb hK
theorem yk(k:Kr)(p:Nat)(hk:dz k.l k.ops k.ps)(l:List Obj)(e:Int):
  body Tryz.prog c69 [.rv (.one (.ptr 0 0)),cq l,an .i64 e] [xB k p] (TX fun r m=>r=an .i64 e/\m=[xB (cV k l e) p]):=by
 refine bA (fun he=>?_) (fun he=>?_)
 .have he:e=0:=he;subst he;refine gD k.l k.ops k.ps ⟨hk.ll,fun o ho=>(hk.sm o ho).mz⟩ hk.lo hk.lp hk.sl hk.ne ?_
  exact⟨_,_,View.o 4 [0] [1,2,3] (.eq rfl .nil) (.pt rfl rfl (PC (k:=cV k l 0) (.aa _) (gq rfl rfl) (gq rfl rfl)) (.nil _)),rfl,rfl⟩
 .have he:¬e=0:=he;refine⟨_,_,View.o 1 [0] [] (.eq rfl .nil) (.pt rfl rfl (.eq rfl (bx _ _)) (.nil _)),rfl,?_⟩;rw[cV,if_neg he]
theorem lV(k:Kr)(p:Nat)(hk:dz k.l k.ops k.ps)(l:List Obj)(e:Int){m:Mem}(id:Nat)(hb:cR m id=some (xB k p)){K:CV->Mem->Prop}(hK:K (an .i64 e) (aZ m id (xB (cV k l e) p))):
  aq Tryz.prog 69 [.rv (.one (.ptr id 0)),cq l,an .i64 e] m K:=
 EP (args:=[cq l,an .i64 e]) (fun _=>rfl) (fun _=>rfl)
  (bK (aX Tryz.func69 l69 (yk k p hk l e)) fun r m1⟨r',m',hv,hq⟩=>⟨r',m',hv,hq⟩) id hb hK
end Kn
namespace Kn
def JV(k:Kr)(n:Nat)(br cn:Int)(r:CV)(m:Mem):Prop:=∃r' m',View 0 ⟨[r],m⟩ ⟨[r'],m'⟩/\
 (((aK k n br cn).2.2≠0/\r'= .bF [gW lS,cC 0,cC (aK k n br cn).2.2]/\m'=[])\/
 ((aK k n br cn).2.2=0/\r'= .bF [.agg [.row 0 9 0 none,.aa (eB (aK k n br cn).1.ops),.aa (fE (aK k n br cn).1.ps)],cC (aK k n br cn).2.1,cC 0]/\m'=[.row 9 (af ((aK k n br cn).1.l.map Obj.enc))]))
theorem Yn{σ:Nat->Nat}{m:Mem}{Z:Nat->Prop}{a a' b b' c c':RV}(h1:u3 σ m Z a a')(h2:u3 σ m Z b b')(h0:u3 σ m Z c c'):po σ m Z (.bF [a,b,c]) (.bF [a',b',c']):=
 .bF rfl fun i r r' e1 e2=>by
  match i,e1,e2 with
  |0,e1,e2=>cases e1;cases e2;exact h1
  |1,e1,e2=>cases e1;cases e2;exact h2
  |2,e1,e2=>cases e1;cases e2;exact h0
  |n+3,e1,e2=>simp at e1
theorem Wz{σ:Nat->Nat}{m:Mem}{Z:Nat->Prop}{x y:Int}:po σ m Z (.bF [.agg [.aB,.aB,.aB],cC x,cC y]) (.bF [gW lS,cC x,cC y]):=
 Yn (.agg rfl fun i c c' h1 h2=>by
  match i,h1,h2 with
  |0,h1,h2=>cases h1;cases h2;exact .eZ (.aB 9)
  |1,h1,h2=>cases h1;cases h2;exact .eZ (.aB 2)
  |2,h1,h2=>cases h1;cases h2;exact .eZ (.aB 4)
  |n+3,h1,h2=>simp at h1) (.one (.aQ (.aa _))) (.one (.aQ (.aa _)))
def Yo(k:Kr)(n:Nat)(br cn:Int):Ex->St->Prop:=mJ Tryz.prog c72.jW (JV k n br cn)
theorem Av{k:Kr}{n:Nat}{br cn e:Int}{m:Mem}(h:aK k n br cn=(lS,0,e))(he:e≠0):JV k n br cn (.bF [.agg [.aB,.aB,.aB],cC 0,cC e]) m:=by refine⟨_,[],View.of m.length [] [] rfl rfl rfl rfl rfl rfl (.put Wz .nil) (.nil _),.inl ?_⟩;rw[h];exact⟨he,rfl,rfl⟩
theorem JW(k:Kr)(l:List Obj)(O:List bD)(ps:List bj)(n i:Nat)(hn:n<ps.length)(hi:i<O.length)(br fd cn:Int)(y:List fq)(h:aK k n br cn=(⟨l,O.set i ⟨br,0⟩,eV ps n y⟩,fd,0)):
  aw Tryz.prog 0 X6 (Yo k n br cn)
   ⟨kR 74 [(1,an .i64 (n:Nat)),(2,an .i64 br),(8,.rv (.one (.ptr 0 0))),(11,an .i64 (i:Nat)),(12,lL y),(13,an .i64 fd),(15,.rv (.one (.ptr 4 0)))],X7 l O ps⟩:=by
 refine ag (xO hi) ?_;have ho:=bC bD.enc O hi;generalize O[i]=x at ho;obtain⟨xo,xa⟩:=x;refine ag ho ?_;refine ag (kM hn) ?_;have hp:=bC bj.enc ps hn;have oP:eV ps n y=ps.set n {ps[n]with bd:=y}:=by rw[eV,sA hn]
 rw[oP]at h;generalize ps[n]=z at hp h;obtain⟨a7,fenced,cd,bd⟩:=z;refine ag hp ?_;refine⟨.bF [.agg [.row 0 9 0 none,.aa (eB (O.set i ⟨br,0⟩)),.aa (fE (ps.set n ⟨a7,fenced,cd,y⟩))],cC fd,cC 0],[.row 9 (af (l.map Obj.enc))],
  View.o 5 [1] [2,3] (.put (Yn (.agg rfl fun j c c' h1 h2=>?_) (.one (.aQ (.aa _))) (.one (.aQ (.aa _)))) .nil) (.pn rfl rfl rfl),.inr ⟨by rw[h],by rw[h],by rw[h]⟩⟩
 match j,h1,h2 with
 |0,h1,h2=>cases h1;cases h2;exact .aQ (σ:=sg [1] 5) (.row 0 9 0 none)
 |1,h1,h2=>
  cases h1;cases h2;refine .eZ (gq rfl (congrArg (fun x=>some (Bk.row 2 x)) ?_))
  show aZ (af (O.map bD.enc)) i ((bD.enc ⟨br,0⟩).map .aa)=_;rw[bg,af,af,aay,aay]
 |2,h1,h2=>
  cases h1;cases h2;refine .eZ (gq rfl (congrArg (fun x=>some (Bk.row 4 x)) ?_))
  show aZ (af (ps.map bj.enc)) n ((bj.enc ⟨a7,fenced,cd,y⟩).map .aa)=_;rw[bg,af,af,aay,aay]
 |n+3,h1,h2=>simp at h1
theorem JX(k:Kr)(hk:dz k.l k.ops k.ps)(n:Nat)(hn:n<k.ps.length)(br cn:Int)(i:Nat)(hi:i=dH k.ops)(Nb:i<=k.ops.length)(iH:¬(EC k.ops=none/\k.ops.length>=60)):
  aw Tryz.prog 0 V0 (Yo k n br cn)
   ⟨kR 74 [(1,an .i64 (n:Nat)),(2,an .i64 br),(3,an .i64 cn),(4,.rv (.one (.ptr 0 0))),(8,.rv (.one (.ptr 1 0))),(11,an .i64 (i:Nat))],[.var ((kC k.l k.ops k.ps).map .aa),.var [.aB,.aB,.aB]]⟩:=by
 have EE:aW k.ps n=k.ps[n].bd:=by rw[aW,sA hn]
 have D6:=hk.sl _ (Wl hn);have O9:k.ops.length<=4194304:=hk.lo;have hS:aK k n br cn=if(fU k.ps[n].bd (i:Nat) cn).2.2≠0 then(lS,0,(fU k.ps[n].bd (i:Nat) cn).2.2)
   else(⟨k.l,iR k.ops i ⟨br,0⟩,eV k.ps n (fU k.ps[n].bd (i:Nat) cn).1⟩,(fU k.ps[n].bd (i:Nat) cn).2.1,0):=by
  rw[aK,if_neg iH,EE,<-hi]
 refine ag (dM hn) ?_;generalize k.ps[n].bd=S at D6 hS;refine xW S om (i:Nat) cn ?_;generalize fU S (i:Nat) cn=A at hS;obtain⟨y,fd,e⟩:=A;refine bt (fun he=>?_) (fun he=>?_)
 .rw[if_pos he]at hS;exact Av hS he
 have he:e=0:=he;subst he;rw[if_neg aI]at hS;refine gD k.l k.ops k.ps ⟨hk.ll,fun o ho=>(hk.sm o ho).mz⟩ hk.lo hk.lp hk.sl hk.ne ?_
 refine bA (fun kT=>?_) (fun kT=>?_)
 .have kT:i=k.ops.length:=by have kT:(i:Int)=((af (k.ops.map bD.enc)).length:Int):=kT;rw[bb,KB]at kT;omega
  have iZ:iR k.ops i ⟨br,0⟩=(k.ops++ [bD.mk 0 0]).set i ⟨br,0⟩:=by rw[iR,if_pos kT,kT];simp
  rw[iZ]at hS;refine⟨by simp only[cu,bb,KB,Wo,aaq];omega,?_⟩
  refine⟨_,View.o1 8 [1,2,7,4,5] [] ?_,JW k k.l (k.ops++ [bD.mk 0 0]) k.ps n i hn (by simp;omega) br fd cn y hS⟩
  .exact .pe rfl rfl rfl (.pr rfl rfl rfl (.pt rfl rfl (.bP (by simp[cu,af,bD.enc])) (.pr rfl rfl rfl (.pm rfl rfl rfl))))
 .have aE:i<k.ops.length:=by have kT:¬(i:Int)=((af (k.ops.map bD.enc)).length:Int):=kT;rw[bb,KB]at kT;omega
  have iZ:iR k.ops i ⟨br,0⟩=k.ops.set i ⟨br,0⟩:=by rw[iR,if_neg om]
  rw[iZ]at hS;refine⟨_,View.o1 6 [1,2,3,4,5] [] ?_,JW k k.l k.ops k.ps n i hn aE br fd cn y hS⟩
  .exact .pe rfl rfl rfl (.pr rfl rfl rfl (.pr rfl rfl rfl (.pr rfl rfl rfl (.pm rfl rfl rfl))))
theorem yl(k:Kr)(hk:dz k.l k.ops k.ps)(n:Nat)(hn:n<k.ps.length)(br cn:Int):body Tryz.prog c72 [dR k.l k.ops k.ps,an .i64 (n:Nat),an .i64 br,an .i64 cn] [] (JV k n br cn):=by
 refine ED k.ops hk.lo ?_;have O9:k.ops.length<=4194304:=hk.lo;cases ho:EC k.ops with
 |none=>
  have Pa:Hs k.ops= -1:=by rw[Hs,ho]
  have Pb:dH k.ops=k.ops.length:=by rw[dH,ho];rfl
  rw[Pa];refine aJ (fun uc=>?_) (fun uc=>?_)
  .have uc:k.ops.length>=60:=by have uc:((k.ops.map bD.enc).length:Int)>=60:=uc;rw[KB]at uc;omega
   exact Av (by rw[aK,if_pos ⟨ho,uc⟩]) (by decide)
  .have uc:¬k.ops.length>=60:=by have uc:¬((k.ops.map bD.enc).length:Int)>=60:=uc;rw[KB]at uc;omega
   refine⟨_,View.o 2 [0,1] [] ?_ ?_,JX k hk n hn br cn k.ops.length Pb.symm (Pq _) (fun h=>uc h.2)⟩
   .have hlen:an .i64 (((k.ops.map bD.enc).length:Nat):Int)=an .i64 ((k.ops.length:Nat):Int):=by rw[KB]
    repeat(first|exact .nil|refine .ar ?_|refine .eq rfl ?_)
    refine .eq hlen.symm ?_;repeat(first|exact .nil|refine .ar ?_|refine .eq rfl ?_)
   .exact .pt rfl rfl (.eq rfl (by simp[kC])) (.pm rfl rfl rfl)
 |some i=>
  have Pa:Hs k.ops=(i:Nat):=by rw[Hs,ho]
  have Pb:dH k.ops=i:=by rw[dH,ho];rfl
  have Nb:=Cw ho;rw[Pa];refine⟨_,View.o1 2 [0,1] [] ?_,JX k hk n hn br cn i Pb.symm om (fun h=>by rw[ho]at h;cases h.1)⟩
  .exact .pt rfl rfl (.eq rfl (by simp[kC])) (.pm rfl rfl rfl)
theorem uD(k:Kr)(hk:dz k.l k.ops k.ps)(n:Nat)(hn:n<k.ps.length)(br cn:Int){m:Mem}{K:CV->Mem->Prop}(h1:(aK k n br cn).2.2≠0->K (.bF [gW lS,cC 0,cC (aK k n br cn).2.2]) m)(h2:(aK k n br cn).2.2=0->K (.bF [.agg [.row m.length 9 0 none,.aa (eB (aK k n br cn).1.ops),.aa (fE (aK k n br cn).1.ps)],cC (aK k n br cn).2.1,cC 0]) (m++ [.row 9 (af ((aK k n br cn).1.l.map Obj.enc))])):
  aq Tryz.prog 72 [dR k.l k.ops k.ps,an .i64 (n:Nat),an .i64 br,an .i64 cn] m K:=by
 refine bw [] m.length rfl rfl rfl rfl rfl (fun i b' hi=>by simp at hi)
  (bK (ce Tryz.func72 l72 (yl k hk n hn br cn)) fun r m1⟨r',m',hv,hq⟩=>⟨r',m',hv,hq⟩) (fun r m1 hp=>⟨Wi _,?_⟩)
 rcases hp with⟨e1,rfl,rfl⟩|⟨e1,rfl,rfl⟩
 .have:=h1 e1;show K _ (gL m []);rw[cf,abi];exact this
 .have:=h2 e1;show K _ (gL m [Bk.aQ _ _]);rw[cf,Bk.jn];exact this
end Kn
def c70:LF:= ⟨42,[.tmp 6,.tmp 7],(.seq (.ai [qu 4 (.box 1),qu 5 (.box 2),qu 6 (.aF (qi 0)),qu 7 (.aF (qi 0))]) (.seq (.ai [qf 11 4 5,qw (.store 1 11 (qi (-1))),qf 12 6 5,qw (.store 1 12 (qi (-1)))]) (.seq (.bU [qm 14 0,qu 15 (.aT 14),qf 16 0 15,qf 17 0 16,ql 18 17,qL 19 9 5,qu 20 (qc 111 [18,19]),qm 13 20,qu 21 (.ext 13 0),qu 22 (.ext 13 1),qu 23 (.ext 13 2),qm 8 21,qm 9 22,qm 10 23] [(.cons 0 none (.cons 1 none (.cons 2 none (.cons 3 none (.cons 4 none (.cons 5 none (.cons 6 (some []) (.cons 7 none (.cons 8 none (.cons 9 none (.cons 10 none (.cons 11 none (.cons 12 none (.cons 13 none .nil))))))))))))))]) (.seq (.seq (.ai [qm 24 10,qu 25 (.aH .neq 24 (qi 0))]) (.cond 25 (.seq (.ai [qm 26 10,qu 6 (.aF (qi 0)),qm 7 26]) .ret) .skip)) (.seq (.ai [qm 28 8,qf 29 1 4,ql 30 29,qf 31 2 4,ql 32 31,qm 33 9,qu 34 (qc 112 [28,30,32,33]),qm 27 34,qu 35 (.ext 27 0),qu 36 (.ext 27 1),qm 8 35,qm 10 36]) (.seq (.ai [qm 37 9,qm 38 0,qm 39 8,qm 40 10,qu 41 (qc 69 [38,39,40]),qm 6 37,qm 7 41]) .ret))))))⟩
namespace Kn
def fL(o:Obj):Obj:={o with aC:= -1,aM:= -1}
def CY(f:R4):CV:= .rv (.agg ((Qn f).map .aa))
def yo(l:List Obj)(f:R4)(n:Int):List Obj×Int:=cO (bp.ff f.name) l f.cD (bp.b7 f.name) n
def cJ(k:Kr)(f:R4)(o:Obj):Kr×Int×Int:=
 if(aG k.l (fL o)).2.2≠0 then(k,0,(aG k.l (fL o)).2.2)
 else(cV k (yo (aG k.l (fL o)).1 f (aG k.l (fL o)).2.1).1 (yo (aG k.l (fL o)).1 f (aG k.l (fL o)).2.1).2,(aG k.l (fL o)).2.1,(yo (aG k.l (fL o)).1 f (aG k.l (fL o)).2.1).2)
structure Mp(o:Obj):Prop where
 sm:o.sm
 en:o.aj=[]
theorem Mp.fL{o:Obj}(h:Mp o):Mp (fL o):=⟨⟨h.sm.t,h.sm.d,h.sm.e,h.sm.q,h.sm.qd⟩,h.en⟩
theorem uy.make{l:List Obj}(h:uy l){o:Obj}(ho:Mp o):uy (aG l o).1:=by
 have key:∀l',(∀x,x∈l'->x∈l\/x=o)->l.length<=l'.length->l'.length<=4194304->uy l':=fun l' hm hl Fs=>by
  refine⟨⟨Fs,fun x hx=>?_⟩,fun x hx=>?_⟩
  .rcases hm x hx with hx|rfl
   .exact h.mz.2 x hx
   .exact ho.sm.mz
  .rcases hm x hx with hx|rfl
   .obtain⟨es,h1,h2,h3,h4⟩:=h.en x hx;exact⟨es,h1,h2,h3,fun e he=>⟨(h4 e he).1,by have:=(h4 e he).2;omega⟩⟩
   .exact⟨[],ho.en,List.Pairwise.nil,aI,aI⟩
 have hf:=h.mz.1;unfold aG;split
 .rename_i k _;refine key _ (fun x hx=>aac hx) aI (by simpa using hf)
 .split
  .exact⟨⟨aI,aI⟩,aI⟩
  .refine key _ (fun x hx=>by simpa using hx) aI (by simp only[aaH,Wo,aaq];omega)
theorem l70:bs Tryz.prog Tryz.f70=some c70:=by kernel_rfl
def SS(a b:Int):CV:= .bF [cC a,cC b]
theorem Aw(k:Kr)(p:Nat)(hw:KW k p)(f:R4)(o:Obj)(ho:Mp o):
  body Tryz.prog c70 [.rv (.one (.ptr 0 0)),CY f,o.cv] [xB k p] (TX fun r m=>r=SS (cJ k f o).2.1 (cJ k f o).2.2/\m=[xB (cJ k f o).1 p]):=by
 have hs:=uy.make hw.Bg ho.fL;refine xI k.l hw.mz (fL o) ?_;have hS:cJ k f o=if(aG k.l (fL o)).2.2≠0 then(k,0,(aG k.l (fL o)).2.2)
  else(cV k (yo (aG k.l (fL o)).1 f (aG k.l (fL o)).2.1).1 (yo (aG k.l (fL o)).1 f (aG k.l (fL o)).2.1).2,(aG k.l (fL o)).2.1,(yo (aG k.l (fL o)).1 f (aG k.l (fL o)).2.1).2):=rfl
 rw[hS];clear hS;generalize aG k.l (fL o)=M at hs⊢;obtain⟨l,n,e⟩:=M;refine⟨trivial,?_⟩;refine bt (fun he=>?_) (fun he=>?_)
 .rw[if_pos he];exact⟨_,_,View.o 3 [0] [] (.eq rfl .nil) (.pt rfl rfl (.eq rfl (bx _ _)) (.nil _)),rfl,rfl⟩
 .have he:e=0:=he;subst he;rw[if_neg aI];refine Gt l hs f.cD n (bp.b7 f.name) (bp.ff f.name) (fun h=>bp.x6 f.name h) ?_
  refine lV k p hw.kr _ _ 0 rfl ?_;exact⟨_,_,View.o 3 [0] [] (.eq rfl .nil) (.pt rfl rfl (.eq rfl (bx _ _)) (.nil _)),rfl,rfl⟩
theorem q9(k:Kr)(p:Nat)(hw:KW k p)(f:R4)(o:Obj)(ho:Mp o){m:Mem}(id:Nat)(hb:cR m id=some (xB k p)){K:CV->Mem->Prop}(hK:K (SS (cJ k f o).2.1 (cJ k f o).2.2) (aZ m id (xB (cJ k f o).1 p))):aq Tryz.prog 70 [.rv (.one (.ptr id 0)),CY f,o.cv] m K:=
 EP (args:=[CY f,o.cv]) (fun _=>rfl) (fun _=>rfl)
  (bK (aX Tryz.func70 l70 (Aw k p hw f o ho)) fun r m1⟨r',m',hv,hq⟩=>⟨r',m',hv,hq⟩) id hb hK
end Kn
end Go.Proofs.YtodckkkbiidffaaGreatDoor
