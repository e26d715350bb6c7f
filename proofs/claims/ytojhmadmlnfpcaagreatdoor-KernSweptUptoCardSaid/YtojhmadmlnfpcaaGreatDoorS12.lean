/- Part 12 of 18. -/
import Derived.Test.YtojhmadmlnfpcaaGreatDoorS10
import Derived.Test.YtojhmadmlnfpcaaGreatDoorS11
set_option linter.unusedVariables false
set_option linter.unusedSimpArgs false
set_option linter.unnecessarySimpa false
set_option maxRecDepth 100000
set_option maxHeartbeats 0
namespace Go.Proofs.YtojhmadmlnfpcaaGreatDoor
open Go.AM Go.ChangeShapes Go.WideShapes Go.ChangeAt Go.RowKit
def c87:LF:= ⟨9,[.tmp 4],(.seq (.ai [qu 4 (.aH (qb false))]) (.seq (.ai [qm 5 0,qm 6 1,qu 7 (qc 128 [5,6]),qu 8 (.aF .geq 7 (qi 0)),qm 4 8]) .ret))⟩
def c88:LF:= ⟨13,[.tmp 3],(.seq (.ai [qu 2 (.box 0),qu 3 (.aH (qb false))]) (.seq (.ai [qf 4 0 2,ql 5 4,qu 6 (.aF .eql 5 (qi 5)),qm 7 6,qg 8 (.br 6 2) 7 true,qg 9 (.load false 1 8) 7 true,qg 10 (.load false 1 1) 7 true,qg 11 (.aF .eql 9 10) 7 true,qu 12 (.pick 7 11 (qb false)),qm 3 12]) .ret))⟩
def c127:LF:= ⟨13,[.tmp 3],(.seq (.ai [qu 2 (.box 0),qu 3 (.aH (qb false))]) (.seq (.ai [qf 4 0 2,ql 5 4,qu 6 (.aF .eql 5 (qi 5)),qm 7 6,qg 8 (.br 6 2) 7 true,qg 9 (.load false 1 8) 7 true,qg 10 (.load false 1 1) 7 true,qg 11 (.aF .eql 9 10) 7 true,qu 12 (.pick 7 11 (qb false)),qm 3 12]) .ret))⟩
def cH(p:Int)(o:Obj):Bool:=o.ah==5&&o.aM==p
theorem l127:bx Tryz.prog Tryz.f127=some c127:=by kernel_rfl
theorem l88:bx Tryz.prog Tryz.f88=some c88:=by kernel_rfl
theorem l87:bx Tryz.prog Tryz.f87=some c87:=by kernel_rfl
theorem BS(o:Obj)(p:Int):body Tryz.prog c127 [o.cv,.rv (.one (.ptr 0 0))] [.var ([Dt.val (.int .i64 p)].map .aa)] (fun r m=>r=ax (cH p o)/\∃ex,m= .var ([Dt.val (.int .i64 p)].map .aa)::ex):=by
 refine aC (fun h=>?_) (fun h=>?_)
 .refine⟨?_,_,rfl⟩;show ax _=ax _;rw[cH,h];rfl
 .refine⟨?_,_,rfl⟩;show ax _=ax _;rw[cH,h];rfl
theorem Sq(o:Obj)(p:Int)(K:CV->Mem->Prop)(h:K (ax (cH p o)) [.var ([Dt.val (.int .i64 p)].map .aa)]):au Tryz.prog 127 [o.cv,.rv (.one (.ptr 0 0))] [.var ([Dt.val (.int .i64 p)].map .aa)] K:=
 eF rfl (aX Tryz.func127 l127 (BS o p)) h
theorem BT(o:Obj)(p:Int):body Tryz.prog c88 [o.cv,.rv (.one (.ptr 0 0))] [.var ([Dt.val (.int .i64 p)].map .aa)] (fun r m=>r=ax (cH p o)/\∃ex,m= .var ([Dt.val (.int .i64 p)].map .aa)::ex):=by
 refine aC (fun h=>?_) (fun h=>?_)
 .refine⟨?_,_,rfl⟩;show ax _=ax _;rw[cH,h];rfl
 .refine⟨?_,_,rfl⟩;show ax _=ax _;rw[cH,h];rfl
theorem Sr(o:Obj)(p:Int)(K:CV->Mem->Prop)(h:K (ax (cH p o)) [.var ([Dt.val (.int .i64 p)].map .aa)]):au Tryz.prog 88 [o.cv,.rv (.one (.ptr 0 0))] [.var ([Dt.val (.int .i64 p)].map .aa)] K:=
 eF rfl (aX Tryz.func88 l88 (BT o p)) h
theorem yw{l:List Obj}{n:Nat}(h:n<l.length):dH (n:Int) (lenOf (af (l.map Obj.enc)).length 0 none)=some n:=cn (by show n<(af (l.map Obj.enc)).length;rw[aU,Nq];exact h)
theorem In(l:List Obj)(hb:l.length<=4194304)(F:Nat)(cs:List Dt)(q:Obj->Bool)(hF:∀s,∀K:CV->Mem->Prop,K (ax (q s)) [.var (cs.map .aa)]->au Tryz.prog F [s.cv,.rv (.one (.ptr 0 0))] [.var (cs.map .aa)] K):
  body Tryz.prog c128 [.rv (.one (.row 0 9 0 none)),.rv (.one (.fn F [1]))] [.row 9 (af (l.map Obj.enc)),.var (cs.map .aa)] (fun r m=>r=an .i64 (nC q l)/\m=[.row 9 (af (l.map Obj.enc)),.var (cs.map .aa)]):=by
 refine aK (fun k=>k<=l.length/\∀(j:Nat)s,j<k->l[j]? =some s->q s=false) [0,1,7] (fun k=>[(8,an .i64 (k:Nat))]) (fun _=>[.row 9 (af (l.map Obj.enc)),.var (cs.map .aa)]) (fun k=>l.length-k) 0 ⟨Wi _,fun j s h=>absurd h (abb j)⟩ ?_ (fun k hk=>?_)
 .refine View.o1 2 [0,1] [] ?_
  .exact .pr rfl rfl rfl (.pt rfl rfl (.jn rfl) (.nil _))
 .refine ay (fun h=>?_) (fun h=>?_)
  .have aB:k<l.length:=by have h:(k:Int)<((af (l.map Obj.enc)).length:Int):=h;rw[aU,Nq]at h;omega
   refine ag (yw aB) ?_;refine ag (bA Obj.enc l aB) ?_;have hi:=IE aB;have VV:=kO (q:=q) aB;generalize l[k]=o at hi VV;refine fe (args0:=[o.cv,.rv (.one (.ptr 0 0))]) (cs:=cs) 1 rfl rfl (r0:=ax (q o)) rfl (fun K hK=>hF o K hK) ?_
   refine aC (fun Gx=>?_) (fun Gx=>?_)
   .rw[VV Gx hk.2];exact⟨rfl,rfl⟩
   .refine⟨k+1,⟨aB,fun j s hj hs=>?_⟩,(show l.length-(k+1)<l.length-k by omega),View.o 2 [0,1] [] ?_ ?_⟩
    .rcases ZX j k with h5|h5
     .exact hk.2 j s h5 hs
     .have:j=k:=om;subst this;rw[hi]at hs;cases hs;exact Gx
    .repeat(first|exact .nil|refine .aq ?_|refine .put (.aO (ap om).symm) ?_|refine .eq rfl ?_)
    .exact .pr rfl rfl rfl (.pt rfl rfl (.jn rfl) (.nil _))
  .have ew:¬(k:Int)<((af (l.map Obj.enc)).length:Int):=h;rw[aU,Nq]at ew;rw[mA fun j s hs=>hk.2 j s (by have:=(Mh.1 hs).1;omega) hs]
   exact⟨rfl,rfl⟩
theorem Ef(l:List Obj)(hb:l.length<=4194304)(F:Nat)(cs:List Dt)(q:Obj->Bool)(hF:∀s,∀K:CV->Mem->Prop,K (ax (q s)) [.var (cs.map .aa)]->au Tryz.prog F [s.cv,.rv (.one (.ptr 0 0))] [.var (cs.map .aa)] K):
  body Tryz.prog c87 [.rv (.one (.row 0 9 0 none)),.rv (.one (.fn F [1]))] [.row 9 (af (l.map Obj.enc)),.var (cs.map .aa)] (fun r m=>r=ax (l.any q)/\m=[.row 9 (af (l.map Obj.enc)),.var (cs.map .aa)]):=by
 refine(aX Tryz.func128 l128 (In l hb F cs q hF)).mono fun r m⟨hr,hm⟩=>?_
 subst hr hm;refine⟨?_,rfl⟩;show ax _=ax _;rw[<-rk]
theorem Lz(l:List Obj)(hb:l.length<=4194304)(F:Nat)(cs:List Dt)(q:Obj->Bool)(hF:∀s,∀K:CV->Mem->Prop,K (ax (q s)) [.var (cs.map .aa)]->au Tryz.prog F [s.cv,.rv (.one (.ptr 0 0))] [.var (cs.map .aa)] K):
  au Tryz.prog 87 [.rv (.one (.row 0 9 0 none)),.rv (.one (.fn F [1]))] [.row 9 (af (l.map Obj.enc)),.var (cs.map .aa)] (fun r m=>r=ax (l.any q)/\m=[.row 9 (af (l.map Obj.enc)),.var (cs.map .aa)]):=
 aX Tryz.func87 l87 (Ef l hb F cs q hF)
def c86:LF:= ⟨146,[.tmp 2],(.seq (.ai [qu 2 (.aH (qb false))]) (.seq (.ai [qm 10 0,qu 11 (qc 126 [10]),qm 3 11]) (.seq (.seq (.ai [qm 12 0,qu 13 (.aY 12),qf 14 0 13,ql 15 14,qu 16 (.len 1 15),qu 17 (.aH (qi 0))]) (.block 0 (.loop (.seq (.ai [qu 18 (.aF .lss 17 16)]) (.seq (.cond 18 .skip (.exit 0)) (.seq (.block 1 (.seq (.ai [qm 19 17,qm 4 19]) (.seq (.seq (.ai [qm 20 3,qu 21 (.aY 20),qf 22 1 21,ql 23 22,qm 24 4,qu 25 (.bW 1 23 24),ql 26 25,qm 27 26,qg 28 (.aH 0) 27 false,qg 29 (.aY 28) 27 false,qg 30 (.br 0 29) 27 false,qg 31 (.load false 1 30) 27 false,qg 32 (.aH 4) 27 false,qg 33 (.bW 9 31 32) 27 false,qg 34 (.br 0 33) 27 false,qg 35 (.load false 1 34) 27 false,qg 36 (.aF .eql 35 (qi 0)) 27 false,qu 37 (.pick 27 (qb true) 36)]) (.cond 37 (.exit 1) .skip)) (.seq (.seq (.ai [qm 38 0,qu 39 (.aY 38),qf 40 0 39,ql 41 40,qu 42 (.len 1 41),qu 43 (.aH (qi 0))]) (.block 2 (.loop (.seq (.ai [qu 44 (.aF .lss 43 42)]) (.seq (.cond 44 .skip (.exit 2)) (.seq (.block 3 (.seq (.ai [qm 45 43,qm 5 45]) (.seq (.ai [qm 46 0,qu 47 (.aY 46),qf 48 0 47,ql 49 48,qm 50 5,qu 51 (.bW 9 49 50),qf 52 0 51,ql 53 52,qu 54 (.aF .eql 53 (qi 4)),qm 55 54,qg 56 (.aH 0) 55 true,qg 57 (.aY 56) 55 true,qg 58 (.br 0 57) 55 true,qg 59 (.load false 1 58) 55 true,qg 60 (.aH 5) 55 true,qg 61 (.bW 9 59 60) 55 true,qg 62 (.br 4 61) 55 true,qg 63 (.load false 1 62) 55 true,qg 64 (.aH 4) 55 true,qg 65 (.aF .eql 63 64) 55 true,qu 66 (.pick 55 65 (qb false))]) (.cond 66 (.ai [qm 67 0,qu 68 (.aY 67),qf 69 0 68,ql 70 69,qm 71 5,qu 72 (.bW 9 70 71),qf 73 4 72,qw (.store 1 73 (qi (-1)))]) .skip)))) (.ai [qu 74 (.aF .add 43 (qi 1)),qm 43 74]))))))) (.ai [qm 75 0,qu 76 (.aY 75),qf 77 0 76,ql 78 77,qm 79 4,qu 80 (.build [qd 0,.aI,.aI,(.aa (.val (.string ⟨#[]⟩))),qd 0,.aI,qd 0,qd 0,qd 0] []),qu 81 (.bW 9 78 79),qw (.store 9 81 80)]))))) (.ai [qu 82 (.aF .add 17 (qi 1)),qm 17 82]))))))) (.seq (.seq (.ai [qm 83 0,qu 84 (.aY 83),qf 85 1 84,ql 86 85,qu 87 (.len 1 86),qu 88 (.aH (qi 0))]) (.block 4 (.loop (.seq (.ai [qu 89 (.aF .lss 88 87)]) (.seq (.cond 89 .skip (.exit 4)) (.seq (.block 5 (.seq (.ai [qm 90 88,qm 6 90]) (.seq (.ai [qm 91 3,qu 92 (.aY 91),qf 93 2 92,ql 94 93,qm 95 6,qu 96 (.bW 1 94 95),ql 97 96,qu 98 (.un .not 97)]) (.cond 98 (.ai [qm 99 0,qu 100 (.aY 99),qf 101 1 100,ql 102 101,qm 103 6,qu 104 (.build [qd 0,qd 0] [(0,1,(qi (-1)))]),qu 105 (.bW 2 102 103),qw (.store 2 105 104)]) .skip)))) (.ai [qu 106 (.aF .add 88 (qi 1)),qm 88 106]))))))) (.seq (.ai [qu 7 (.aH (qb false))]) (.seq (.seq (.ai [qm 107 0,qu 108 (.aY 107),qf 109 2 108,ql 110 109,qu 111 (.len 1 110),qu 112 (.aH (qi 0))]) (.block 6 (.loop (.seq (.ai [qu 113 (.aF .lss 112 111)]) (.seq (.cond 113 .skip (.exit 6)) (.seq (.block 7 (.seq (.ai [qm 114 112,qu 8 (.alloc [qd 0]),qw (.store 1 8 114)]) (.seq (.ai [qm 115 0,qu 116 (.aY 115),qf 117 0 116,ql 118 117,qu 119 (.fn 127 [8]),qu 120 (qc 87 [118,119]),qm 9 120]) (.seq (.bX [ql 121 8,qu 122 (.aF .gtr 121 (qi 0)),qm 123 122,qg 124 (.aH 0) 123 true,qg 125 (.aY 124) 123 true,qg 126 (.br 2 125) 123 true,qg 127 (.load false 1 126) 123 true,qg 128 (.load false 1 8) 123 true,qg 129 (.bW 4 127 128) 123 true,qg 130 (.br 0 129) 123 true,qg 131 (.load false 1 130) 123 true,qu 132 (.pick 123 131 (qb false)),qm 133 132,qg 134 (.aH 9) 133 true,qg 135 (.un .not 134) 133 true,qu 136 (.pick 133 135 (qb false))] [(.cons 0 none (.cons 1 none (.cons 2 none (.cons 3 none (.cons 4 none (.cons 5 none (.cons 6 none (.cons 7 none (.cons 8 none (.cons 9 none (.cons 10 none (.cons 11 none (.cons 12 none (.cons 13 none (.cons 14 none (.cons 15 none .nil))))))))))))))))]) (.cond 136 (.seq (.bX [qm 137 0,qu 138 (.aY 137),qf 139 2 138,ql 140 139,ql 141 8,qu 142 (.build [(.aa (.val (.bool false))),(.aa (.val (.bool false))),qd 0,.aI] []),qu 143 (.bW 4 140 141),qw (.store 4 143 142)] [(.cons 0 none (.cons 1 none (.cons 2 none (.cons 3 none (.cons 4 none (.cons 5 none (.cons 6 none (.cons 7 (some []) .nil))))))))]) (.ai [qu 7 (.aH (qb true))])) .skip))))) (.ai [qu 144 (.aF .add 112 (qi 1)),qm 112 144]))))))) (.seq (.ai [qm 145 7,qm 2 145]) .ret)))))))⟩
def Pt{α:Type}(l L:List α)(f:Nat->α->α):Prop:=L.length=l.length/\∀(t:Nat)o,l[t]? =some o->L[t]? =some (f t o)
theorem Pt.refl{α:Type}(l:List α):Pt l l fun _ o=>o:=⟨rfl,fun _ _ h=>h⟩
theorem Pt.congr{α:Type}{l L:List α}{f g:Nat->α->α}(h:Pt l L f)(hfg:∀(t:Nat)o,l[t]? =some o->f t o=g t o):Pt l L g:=
 ⟨h.1,fun t o ho=>by rw[<-hfg t o ho];exact h.2 t o ho⟩
theorem Pt.set{α:Type}{l L:List α}{f g:Nat->α->α}(h:Pt l L f){j:Nat}{x:α}(hx:∀o,l[j]? =some o->g j o=x)(ho:∀(t:Nat)o,t≠j->l[t]? =some o->g t o=f t o):Pt l (L.set j x) g:=by
 refine⟨by simpa using h.1,fun t o w8=>?_⟩
 have aB:t<L.length:=by rw[h.1];exact(Mh.1 w8).1
 by_cases J0:t=j
 .subst J0;rw[hx o w8];simp[aB]
 .rw[ZZ (fun e=>J0 e.symm),ho t o J0 w8]
  exact h.2 t o w8
theorem Pt.at{α:Type}{l L:List α}{f:Nat->α->α}(h:Pt l L f){j:Nat}(hj:j<l.length):∃hL:j<L.length,L[j]=f j l[j]:=by
 have hL:j<L.length:=by rw[h.1];exact hj
 have:=h.2 j l[j] (IE hj);rw[IE hL]at this;exact⟨hL,by simpa using this⟩
theorem mK.LB{σ:Nat->Nat}{m:Mem}{Z:Nat->Prop}{id s:Nat}(ds:List (List Dt))(i:Nat){cs:List CC}{d:List Dt}(hl:cs.length=d.length)(h:∀(j:Nat)c c',cs[j]? =some c->(d.map CC.aa)[j]? =some c'->qA σ m Z (some id) c c'):mK σ m Z id (.row s (bb (af ds) i cs)) (.row s (af (ds.set i d))):=by
 rw[bj];have e:af (ds.set i d)=(af ds).set i (d.map .aa):=by simp[af,abJ]
 rw[e];refine .row s aG (fun t xs ys h1 h2=>?_) (fun t xs ys j c c' h1 h2 h3 h4=>?_)
 .rw[abw]at h1 h2;split at h1
  .rename_i La;rw[if_pos La]at h2;split at h1
   .rename_i aB;rw[if_pos aB]at h2;cases h1;cases h2;simpa using hl
   .cases h1
  .rename_i La;rw[if_neg La]at h2;rw[h1]at h2;cases h2;rfl
 .rw[abw]at h1 h2;split at h1
  .rename_i La;rw[if_pos La]at h2;split at h1
   .rename_i aB;rw[if_pos aB]at h2;cases h1;cases h2;exact h j c c' h3 h4
   .cases h1
  .rename_i La;rw[if_neg La]at h2;rw[h1]at h2;cases h2;rw[h3]at h4;cases h4;have hd:∃d,c= .aa d:=by rw[af,Q8]at h1;obtain⟨es,_,rfl⟩:=aaI.1 h1;rw[Q8]at h3;obtain⟨d,_,rfl⟩:=aaI.1 h3;exact⟨d,rfl⟩
   obtain⟨d,rfl⟩:=hd;exact .aO (.aa d)
def eQ:Obj:=⟨0,[],[],⟨#[]⟩,0,[],0,0,0⟩
def Gy:List CC:=[.aa (.val (.int .i64 0)),.aI,.aI,.aa (.val (.string ⟨#[]⟩)),.aa (.val (.int .i64 0)),.aI,.aa (.val (.int .i64 0)),.aa (.val (.int .i64 0)),.aa (.val (.int .i64 0))]
theorem Zr{σ:Nat->Nat}{m:Mem}{Z:Nat->Prop}{id:Nat}(L:List Obj)(i:Nat):mK σ m Z id (.row 9 (bb (af (L.map Obj.enc)) i Gy)) (.row 9 (af ((L.set i eQ).map Obj.enc))):=by
 rw[abJ];refine mK.LB (L.map Obj.enc) i rfl fun j c c' h1 h2=>?_
 match j,h1,h2 with
 |0,h1,h2=>cases h1;cases h2;exact .aO (.aa _)
 |1,h1,h2=>cases h1;cases h2;exact .e8 (.aI 1)
 |2,h1,h2=>cases h1;cases h2;exact .e8 (.aI 2)
 |3,h1,h2=>cases h1;cases h2;exact .aO (.aa _)
 |4,h1,h2=>cases h1;cases h2;exact .aO (.aa _)
 |5,h1,h2=>cases h1;cases h2;exact .e8 (.aI 4)
 |6,h1,h2=>cases h1;cases h2;exact .aO (.aa _)
 |7,h1,h2=>cases h1;cases h2;exact .aO (.aa _)
 |8,h1,h2=>cases h1;cases h2;exact .aO (.aa _)
 |n+9,h1,h2=>simp[Gy]at h1
def eR:aT:=⟨false,false,0,[]⟩
theorem LD{σ:Nat->Nat}{m:Mem}{Z:Nat->Prop}{id:Nat}(L:List aT)(i:Nat):mK σ m Z id (.row 4 (bb (af (L.map aT.enc)) i [.aa (.val (.bool false)),.aa (.val (.bool false)),.aa (.val (.int .i64 0)),.aI])) (.row 4 (af ((L.set i eR).map aT.enc))):=by
 rw[abJ];refine mK.LB (L.map aT.enc) i rfl fun j c c' h1 h2=>?_
 match j,h1,h2 with
 |0,h1,h2=>cases h1;cases h2;exact .aO (.aa _)
 |1,h1,h2=>cases h1;cases h2;exact .aO (.aa _)
 |2,h1,h2=>cases h1;cases h2;exact .aO (.aa _)
 |3,h1,h2=>cases h1;cases h2;exact .e8 (.aI 3)
 |n+4,h1,h2=>simp at h1
def dB(b:Mk)(l:List Obj)(i:Nat):Bool:=match l[i]? with
 |some o=>!(b.O[i]? ==some true)&&o.ah !=0
 |none=>false
def jK(b:Mk)(l:List Obj)(k:Nat)(z:Int):Bool:=decide (0<=z/\z.toNat<k)&&dB b l z.toNat
def cy(b:Mk)(l:List Obj)(k:Nat)(j:Nat)(o:Obj):Obj:=if(dB b l j&&decide (j<k))=true then eQ else if(o.ah==4&&jK b l k o.aD)=true then {o with aD:= -1}else o
def iX(i:Nat)(o:Obj):Obj:=if(o.ah==4&&o.aD==(i:Int))=true then {o with aD:= -1}else o
theorem vJ(b:Mk)(l:List Obj)(i:Nat)(z:Int):jK b l (i+1) z=(jK b l i z||(z==(i:Int)&&dB b l i)):=by
 unfold jK;by_cases h:z=(i:Int)
 .subst h;simp
 .have h1:(z==(i:Int))=false:=by simpa using h
  rw[h1];have:decide (0<=z/\z.toNat<i+1)=decide (0<=z/\z.toNat<i):=by
   apply decide_eq_decide.2;constructor<;>intro⟨h2,h3⟩<;>exact⟨h2,om⟩
  rw[this];simp
theorem Io{b:Mk}{l:List Obj}{i:Nat}(h:dB b l i=false)(j:Nat)(o:Obj):cy b l i j o=cy b l (i+1) j o:=by
 have h1:(dB b l j&&decide (j<i+1))=(dB b l j&&decide (j<i)):=by
  by_cases hj:j=i
  .subst hj;rw[h];simp
  .have:decide (j<i+1)=decide (j<i):=decide_eq_decide.2 om;rw[this]
 unfold cy;rw[h1,vJ,h];simp
theorem Eg{b:Mk}{l:List Obj}{i:Nat}(h:dB b l i=true){j:Nat}(hj:j≠i)(o:Obj):iX i (cy b l i j o)=cy b l (i+1) j o:=by
 have h1:(dB b l j&&decide (j<i+1))=(dB b l j&&decide (j<i)):=by have:decide (j<i+1)=decide (j<i):=decide_eq_decide.2 om;rw[this]
 unfold cy;rw[h1,vJ,h];by_cases hd:(dB b l j&&decide (j<i))=true
 .rw[if_pos hd,if_pos hd];rfl
 .rw[if_neg hd,if_neg hd];by_cases hk:(o.ah==4)=true
  .by_cases hz:jK b l i o.aD=true
   .rw[hk,hz];simp[iX]
   .rw[acC]at hz;rw[hk,hz];by_cases hp:(o.aD==(i:Int))=true
    .simp[iX,hk,hp]
    .rw[acC]at hp;simp[iX,hp]
  .rw[acC]at hk;rw[hk];simp[iX,hk]
theorem BU{b:Mk}{l:List Obj}{i:Nat}(h:dB b l i=true)(o:Obj):cy b l (i+1) i o=eQ:=by unfold cy;rw[h];simp
theorem BV(b:Mk)(l:List Obj)(j:Nat)(o:Obj):cy b l 0 j o=o:=by
 unfold cy;have:jK b l 0 o.aD=false:=by simp[jK]
 rw[this];simp
theorem BW{b:Mk}{l:List Obj}{i:Nat}(o:Obj):(cy b l i i o).ah=o.ah:=by
 unfold cy;simp;split<;>rfl
def jp(L:List Obj)(t:Nat)(o:aT):Bool:=decide (0<t)&&(o.aQ&& !(L.any (cH (t:Int))))
def zL(b:Mk)(k:Nat)(t:Nat)(o:bi):bi:=if(decide (t<k)&& !(b.P[t]? ==some true))=true then⟨-1,0⟩else o
def vK(L:List Obj)(k:Nat)(t:Nat)(o:aT):aT:=if(decide (t<k)&&jp L t o)=true then eR else o
def g9(L:List Obj)(ps:List aT)(k:Nat):Bool:=(List.range k).any fun t=>match ps[t]? with
 |some o=>jp L t o
 |none=>false
structure cL(l:List Obj)(ops:List bi)(ps:List aT)(L:List Obj)(L2:List bi)(L3:List aT)(en:Bool):Prop where
 ex:∃b,fO l ops ps b/\Pt l L (cy b l l.length)/\Pt ops L2 (zL b ops.length)
 pr:Pt ps L3 (vK L ps.length)
 en:en=g9 L ps ps.length
structure StL where
 i:Nat
 L:List Obj
structure Zs where
 i:Nat
 L:List bi
structure St3 where
 i:Nat
 L:List aT
 en:Bool
theorem zM{l:List bi}{n:Nat}(h:n<l.length):dH (n:Int) (lenOf (af (l.map bi.enc)).length 0 none)=some n:=cn (by show n<(af (l.map bi.enc)).length;rw[aU,Nq];exact h)
theorem lY{l:List aT}{n:Nat}(h:n<l.length):dH (n:Int) (lenOf (af (l.map aT.enc)).length 0 none)=some n:=cn (by show n<(af (l.map aT.enc)).length;rw[aU,Nq];exact h)
theorem vL{α:Type}{f:α->List Dt}{l:List α}{k:Nat}(h:(k:Int)<(((af (l.map f)).length:Nat):Int)):k<l.length:=by rw[aU,Nq]at h;omega
theorem vM{α:Type}{f:α->List Dt}{l:List α}{k:Nat}(h:¬(k:Int)<(((af (l.map f)).length:Nat):Int)):l.length<=k:=by rw[aU,Nq]at h;omega
theorem Eh{L:List Obj}{ps:List aT}{p:Nat}(h:p<ps.length):g9 L ps (p+1)=(g9 L ps p||jp L p ps[p]):=by
 unfold g9;rw[adr,List.any_append,IE h|>fun e=>(by simp[e]:(List.any [p] fun t=>match ps[t]? with|some o=>jp L t o|none=>false)=jp L p ps[p])]
theorem Ei(L:List Obj)(L2:List bi)(L3:List aT)(b:Mk)(p:Nat)(hl:L.length<=4194304){K:CV->Mem->Prop}(h:K (ax (L.any (cH (p:Int)))) [.var [.row 1 9 0 none,.row 2 2 0 none,.row 3 4 0 none],.row 9 (af (L.map Obj.enc)),.row 2 (af (L2.map bi.enc)),.row 4 (af (L3.map aT.enc)),.var [.ptr 0 0,.row 5 1 0 none,.row 6 1 0 none],.row 1 (af (b.O.map bE)),.row 1 (af (b.P.map bE)),.var [.aa (.val (.int .i64 (p:Nat)))]]):au Tryz.prog 87 [.rv (.one (.row 1 9 0 none)),.rv (.one (.fn 127 [7]))] [.var [.row 1 9 0 none,.row 2 2 0 none,.row 3 4 0 none],.row 9 (af (L.map Obj.enc)),.row 2 (af (L2.map bi.enc)),.row 4 (af (L3.map aT.enc)),.var [.ptr 0 0,.row 5 1 0 none,.row 6 1 0 none],.row 1 (af (b.O.map bE)),.row 1 (af (b.P.map bE)),.var [.aa (.val (.int .i64 (p:Nat)))]] K:=by
 refine bu [1,7] 8 rfl rfl rfl rfl (args0:=[.rv (.one (.row 0 9 0 none)),.rv (.one (.fn 127 [1]))]) rfl (fun i b' hi=>?_) (Lz L hl 127 [.val (.int .i64 (p:Nat))] (cH (p:Int)) (fun s K hK=>Sq s p K hK)) (fun r m1 hr=>?_)
 .match i,hi with
  |0,hi=>cases hi;exact .inr ⟨fun h=>h,_,rfl,.bM rfl⟩
  |1,hi=>cases hi;exact .inr ⟨fun h=>h,_,rfl,.jn rfl⟩
  |n+2,hi=>simp at hi
 .obtain⟨rfl,rfl⟩:=hr;refine⟨SS _,?_⟩;have e:(Bk.row 9 (af (L.map Obj.enc))).aO (sg [1,7] 8)= .row 9 (af (L.map Obj.enc)):=by simp only[Bk.aO,db]
  show K _ [.var [.row 1 9 0 none,.row 2 2 0 none,.row 3 4 0 none],(Bk.row 9 (af (L.map Obj.enc))).aO (sg [1,7] 8),.row 2 (af (L2.map bi.enc)),.row 4 (af (L3.map aT.enc)),.var [.ptr 0 0,.row 5 1 0 none,.row 6 1 0 none],.row 1 (af (b.O.map bE)),.row 1 (af (b.P.map bE)),.var [.aa (.val (.int .i64 (p:Nat)))]];rw[e];exact h
theorem l86:bx Tryz.prog Tryz.f86=some c86:=by kernel_rfl
theorem Ip(l:List Obj)(ops:List bi)(ps:List aT)(g:∀o,o∈l->o.sm)(hl:l.length<=4194304)(ho:ops.length<=4194304)(fW:ps.length<=4194304)(mJ:∀p,p∈ps->p.aJ.length<=10):
  body Tryz.prog c86 [.rv (.one (.ptr 0 0))] [.var [.row 1 9 0 none,.row 2 2 0 none,.row 3 4 0 none],.row 9 (af (l.map Obj.enc)),.row 2 (af (ops.map bi.enc)),.row 4 (af (ps.map aT.enc))]
   (fun r m=>∃r' m',View 4 ⟨[r],m⟩ ⟨[r'],m'⟩/\∃L L2 L3 en,cL l ops ps L L2 L3 en/\r'=ax en/\m'=[.var [.row 1 9 0 none,.row 2 2 0 none,.row 3 4 0 none],.row 9 (af (L.map Obj.enc)),.row 2 (af (L2.map bi.enc)),.row 4 (af (L3.map aT.enc))]):=by
 refine(Ly l ops ps g hl ho fW mJ).mono fun r m⟨b,hb,hr,hm⟩=>?_
 subst hr hm;have hbO:=hb.len.1;have hbP:=hb.len.2;refine aK (fun(s:StL)=>s.i<=l.length/\Pt l s.L (cy b l s.i)) [0,3,16] (fun s=>[(17,an .i64 (s.i:Nat))]) (fun s=>[.var [.row 1 9 0 none,.row 2 2 0 none,.row 3 4 0 none],.row 9 (af (s.L.map Obj.enc)),.row 2 (af (ops.map bi.enc)),.row 4 (af (ps.map aT.enc)),.var [.ptr 0 0,.row 5 1 0 none,.row 6 1 0 none],.row 1 (af (b.O.map bE)),.row 1 (af (b.P.map bE))]) (fun s=>l.length-s.i) ⟨0,l⟩ ⟨Wi _,(Pt.refl l).congr fun t o _=>(BV b l t o).symm⟩ ?_ (fun s hs=>?_)
 .refine View.o1 7 [0,1,2,3,4,5,6] [] ?_
  .exact(.pe rfl rfl rfl (.pr rfl rfl rfl (.pr rfl rfl rfl (.pr rfl rfl rfl (.pe rfl rfl rfl (.pr rfl rfl rfl (.pn rfl rfl rfl)))))))
 obtain⟨i,L⟩:=s;obtain⟨hi,BX⟩:=hs;have hi:i<=l.length:=hi;have BX:Pt l L (cy b l i):=BX;refine ay (fun h=>?_) (fun h=>?_)
 .have aB:i<l.length:=vL h;have XT:i<b.O.length:=om;refine ag (yu XT) ?_;refine ag (sy XT) ?_;have pg:∀(hd:dB b l i=false),Pt l L (cy b l (i+1)):=fun hd=>BX.congr fun t o _=>Io hd t o
  refine aC (fun h2=>?_) (fun h2=>?_)
  .have hd:dB b l i=false:=by unfold dB;rw[IE aB,IE XT,h2];simp
   refine⟨⟨i+1,L⟩,⟨aB,pg hd⟩,(show l.length-(i+1)<l.length-i by omega),View.o 7 [0,1,2,3,4,5,6] [] ?_ ?_⟩
   .repeat(first|exact .nil|refine .aq ?_|refine .put (.aO (ap om).symm) ?_|refine .eq rfl ?_)
   .exact(.pe rfl rfl rfl (.pr rfl rfl rfl (.pr rfl rfl rfl (.pr rfl rfl rfl (.pe rfl rfl rfl (.pr rfl rfl rfl (.pn rfl rfl rfl)))))))
  .obtain⟨hL,hLi⟩:=BX.at aB;have Db:L[i].ah=l[i].ah:=by rw[hLi,BW]
   refine ag (yw hL) ?_;refine ag (bA Obj.enc L hL) ?_;refine bI (fun h3=>?_) (fun h3=>?_)
   .have h3:L[i].ah=0:=h3;have hd:dB b l i=false:=by unfold dB;rw[IE aB];show(!(b.O[i]? ==some true)&&l[i].ah !=0)=false;rw[<-Db,h3];simp
    refine⟨⟨i+1,L⟩,⟨aB,pg hd⟩,(show l.length-(i+1)<l.length-i by omega),View.o 7 [0,1,2,3,4,5,6] [] ?_ ?_⟩
    .repeat(first|exact .nil|refine .aq ?_|refine .put (.aO (ap om).symm) ?_|refine .eq rfl ?_)
    .exact(.pe rfl rfl rfl (.pr rfl rfl rfl (.pr rfl rfl rfl (.pr rfl rfl rfl (.pe rfl rfl rfl (.pr rfl rfl rfl (.pn rfl rfl rfl)))))))
   .have h3:L[i].ah≠0:=h3;have hd:dB b l i=true:=by unfold dB;rw[IE aB,IE XT,h2];simp[<-Db,h3]
    have hLl:=BX.1;refine aK (fun(s:StL)=>s.i<=l.length/\Pt l s.L (fun t o=>if t<s.i then iX i (cy b l i t o)else cy b l i t o)) [0,3,4,16,17,42] (fun s=>[(43,an .i64 (s.i:Nat))]) (fun s=>[.var [.row 1 9 0 none,.row 2 2 0 none,.row 3 4 0 none],.row 9 (af (s.L.map Obj.enc)),.row 2 (af (ops.map bi.enc)),.row 4 (af (ps.map aT.enc)),.var [.ptr 0 0,.row 5 1 0 none,.row 6 1 0 none],.row 1 (af (b.O.map bE)),.row 1 (af (b.P.map bE))]) (fun s=>l.length-s.i) ⟨0,L⟩ ⟨Wi _,BX.congr fun t o _=>aG⟩ ?_ (fun s hs=>?_)
    .refine View.o1 7 [0,1,2,3,4,5,6] [] ?_
     .exact(.pe rfl rfl rfl (.pr rfl rfl rfl (.pr rfl rfl rfl (.pr rfl rfl rfl (.pe rfl rfl rfl (.pr rfl rfl rfl (.pn rfl rfl rfl)))))))
    clear BX pg;obtain⟨j,M⟩:=s;obtain⟨hj,BX⟩:=hs;have hj:j<=l.length:=hj;have BX:Pt l M (fun t o=>if t<j then iX i (cy b l i t o)else cy b l i t o):=BX
    have hMl:=BX.1;refine ay (fun km=>?_) (fun km=>?_)
    .have da:j<L.length:=vL km;have Iq:j<l.length:=om;obtain⟨hM,Ub⟩:=BX.at Iq;simp only[Nat.lt_irrefl,if_false]at Ub;have jT:=fun x=>BX.set (j:=j) (x:=x) (g:=fun t o=>if t<j+1 then iX i (cy b l i t o)else cy b l i t o)
     have qV:=fun(hh:iX i M[j]=M[j])=>BX.congr (g:=fun t o=>if t<j+1 then iX i (cy b l i t o)else cy b l i t o) fun t o ho=>by
      by_cases J0:t=j
      .subst J0;rw[IE Iq]at ho;cases ho;simp only[Nat.lt_irrefl,if_false,ab7,if_true];rw[<-Ub,hh]
      .have e1:(t<j+1)↔(t<j):=om;simp only[e1]
     refine ag (yw hM) ?_;refine ag (bA Obj.enc M hM) ?_;have U5:=bA Obj.enc M hM;generalize hx:M[j]=x at Ub qV U5;refine bI (fun h4=>?_) (fun h4=>?_)
     .have h4:x.ah=4:=h4;refine ag (yw hM) ?_;refine ag U5 ?_;refine bI (fun h5=>?_) (fun h5=>?_)
      .have h5:x.aD=(i:Int):=h5;refine ag (yw hM) ?_;refine ag U5 ?_;have hs:=jT {x with aD:= -1} (fun o ho=>by
        rw[IE Iq]at ho;cases ho;simp only[ab7,if_true];rw[<-Ub];simp[iX,h4,h5]) (fun t o J0 _=>by
        have e1:(t<j+1)↔(t<j):=om;simp only[e1])
       refine⟨⟨j+1,M.set j {x with aD:= -1}⟩,⟨Iq,hs⟩,(show l.length-(j+1)<l.length-j by omega),View.o 7 [0,1,2,3,4,5,6] [] ?_ ?_⟩
       .repeat(first|exact .nil|refine .aq ?_|refine .put (.aO (ap om).symm) ?_|refine .eq rfl ?_)
       .exact(.pe rfl rfl rfl (.pt rfl rfl (.bM (mV Obj.enc M j {x with aD:= -1})) (.pr rfl rfl rfl (.pr rfl rfl rfl (.pe rfl rfl rfl (.pr rfl rfl rfl (.pn rfl rfl rfl)))))))
      .have h5:x.aD≠(i:Int):=h5;refine⟨⟨j+1,M⟩,⟨Iq,qV (by simp[iX,h5])⟩,(show l.length-(j+1)<l.length-j by omega),View.o 7 [0,1,2,3,4,5,6] [] ?_ ?_⟩
       .repeat(first|exact .nil|refine .aq ?_|refine .put (.aO (ap om).symm) ?_|refine .eq rfl ?_)
       .exact(.pe rfl rfl rfl (.pr rfl rfl rfl (.pr rfl rfl rfl (.pr rfl rfl rfl (.pe rfl rfl rfl (.pr rfl rfl rfl (.pn rfl rfl rfl)))))))
     .have h4:x.ah≠4:=h4;refine⟨⟨j+1,M⟩,⟨Iq,qV (by simp[iX,h4])⟩,(show l.length-(j+1)<l.length-j by omega),View.o 7 [0,1,2,3,4,5,6] [] ?_ ?_⟩
      .repeat(first|exact .nil|refine .aq ?_|refine .put (.aO (ap om).symm) ?_|refine .eq rfl ?_)
      .exact(.pe rfl rfl rfl (.pr rfl rfl rfl (.pr rfl rfl rfl (.pr rfl rfl rfl (.pe rfl rfl rfl (.pr rfl rfl rfl (.pn rfl rfl rfl)))))))
    .have Ge:L.length<=j:=vM km;have hM:i<M.length:=om;refine ag (yw hM) ?_;refine ag (bA Obj.enc M hM) ?_;have hs:=BX.set (j:=i) (x:=eQ) (g:=cy b l (i+1)) (fun o _=>BU hd o) (fun t o La ht=>by
      have:t<j:=by have:=(Mh.1 ht).1;omega
      rw[if_pos this,Eg hd La])
     refine⟨⟨i+1,M.set i eQ⟩,⟨aB,hs⟩,(show l.length-(i+1)<l.length-i by omega),View.o 7 [0,1,2,3,4,5,6] [] ?_ ?_⟩
     .repeat(first|exact .nil|refine .aq ?_|refine .put (.aO (ap om).symm) ?_|refine .eq rfl ?_)
     .exact(.pe rfl rfl rfl (.pt rfl rfl (Zr M i) (.pr rfl rfl rfl (.pr rfl rfl rfl (.pe rfl rfl rfl (.pr rfl rfl rfl (.pn rfl rfl rfl)))))))
 .have h9:l.length<=i:=vM h;have gX:i=l.length:=om;subst gX;have hLl:=BX.1;refine aK (fun(s:Zs)=>s.i<=ops.length/\Pt ops s.L (zL b s.i)) [0,3,87] (fun s=>[(88,an .i64 (s.i:Nat))]) (fun s=>[.var [.row 1 9 0 none,.row 2 2 0 none,.row 3 4 0 none],.row 9 (af (L.map Obj.enc)),.row 2 (af (s.L.map bi.enc)),.row 4 (af (ps.map aT.enc)),.var [.ptr 0 0,.row 5 1 0 none,.row 6 1 0 none],.row 1 (af (b.O.map bE)),.row 1 (af (b.P.map bE))]) (fun s=>ops.length-s.i) ⟨0,ops⟩ ⟨Wi _,(Pt.refl ops).congr fun t o _=>by simp[zL]⟩ ?_ (fun s hs=>?_)
  .refine View.o1 7 [0,1,2,3,4,5,6] [] ?_
   .exact(.pe rfl rfl rfl (.pr rfl rfl rfl (.pr rfl rfl rfl (.pr rfl rfl rfl (.pe rfl rfl rfl (.pr rfl rfl rfl (.pn rfl rfl rfl)))))))
  obtain⟨k,L2⟩:=s;obtain⟨hk,AY⟩:=hs;have hk:k<=ops.length:=hk;have AY:Pt ops L2 (zL b k):=AY;have adZ:=AY.1;refine ay (fun h=>?_) (fun h=>?_)
  .have rb:k<ops.length:=vL h;have XU:k<b.P.length:=om;refine ag (yu XU) ?_;refine ag (sy XU) ?_;have jc:∀t,t≠k->decide (t<k+1)=decide (t<k):=fun t ht=>decide_eq_decide.2 om
   refine aC (fun h2=>?_) (fun h2=>?_)
   .have h2:b.P[k]=false:=by simpa using h2
    have hL2:k<L2.length:=om;refine ag (zM hL2) ?_;refine ag (bA bi.enc L2 hL2) ?_;have hs:=AY.set (j:=k) (x:=⟨-1,0⟩) (g:=zL b (k+1)) (fun o _=>by simp[zL,IE XU,h2]) (fun t o LG _=>by unfold zL;rw[jc t LG])
    refine⟨⟨k+1,L2.set k ⟨-1,0⟩⟩,⟨rb,hs⟩,(show ops.length-(k+1)<ops.length-k by omega),View.o 7 [0,1,2,3,4,5,6] [] ?_ ?_⟩
    .repeat(first|exact .nil|refine .aq ?_|refine .put (.aO (ap om).symm) ?_|refine .eq rfl ?_)
    .exact(.pe rfl rfl rfl (.pr rfl rfl rfl (.pt rfl rfl (.bM (mV bi.enc L2 k ⟨-1,0⟩)) (.pr rfl rfl rfl (.pe rfl rfl rfl (.pr rfl rfl rfl (.pn rfl rfl rfl)))))))
   .have h2:b.P[k]=true:=by simpa using h2
    have hs:=AY.congr (g:=zL b (k+1)) fun t o _=>by
     by_cases LG:t=k
     .subst LG;simp[zL,IE XU,h2]
     .unfold zL;rw[jc t LG]
    refine⟨⟨k+1,L2⟩,⟨rb,hs⟩,(show ops.length-(k+1)<ops.length-k by omega),View.o 7 [0,1,2,3,4,5,6] [] ?_ ?_⟩
    .repeat(first|exact .nil|refine .aq ?_|refine .put (.aO (ap om).symm) ?_|refine .eq rfl ?_)
    .exact(.pe rfl rfl rfl (.pr rfl rfl rfl (.pr rfl rfl rfl (.pr rfl rfl rfl (.pe rfl rfl rfl (.pr rfl rfl rfl (.pn rfl rfl rfl)))))))
  .have h9:ops.length<=k:=vM h;have uj:k=ops.length:=om;subst uj;refine aK (fun(s:St3)=>s.i<=ps.length/\Pt ps s.L (vK L s.i)/\s.en=g9 L ps s.i) [0,3,111] (fun s=>[(112,an .i64 (s.i:Nat)),(7,ax s.en)]) (fun s=>[.var [.row 1 9 0 none,.row 2 2 0 none,.row 3 4 0 none],.row 9 (af (L.map Obj.enc)),.row 2 (af (L2.map bi.enc)),.row 4 (af (s.L.map aT.enc)),.var [.ptr 0 0,.row 5 1 0 none,.row 6 1 0 none],.row 1 (af (b.O.map bE)),.row 1 (af (b.P.map bE))]) (fun s=>ps.length-s.i) ⟨0,ps,false⟩ ⟨Wi _,(Pt.refl ps).congr fun t o _=>by simp[vK],rfl⟩ ?_ (fun s hs=>?_)
   .refine View.o1 7 [0,1,2,3,4,5,6] [] ?_
    .exact(.pe rfl rfl rfl (.pr rfl rfl rfl (.pr rfl rfl rfl (.pr rfl rfl rfl (.pe rfl rfl rfl (.pr rfl rfl rfl (.pn rfl rfl rfl)))))))
   obtain⟨p,L3,en⟩:=s;obtain⟨hp,Ss,mX⟩:=hs;have hp:p<=ps.length:=hp;have Ss:Pt ps L3 (vK L p):=Ss;have mX:en=g9 L ps p:=mX;have ad0:=Ss.1;refine ay (fun h=>?_) (fun h=>?_)
   .have ft:p<ps.length:=vL h;obtain⟨XV,OQ⟩:=Ss.at ft;have OQ:L3[p]=ps[p]:=by rw[OQ];simp[vK]
    have jc:∀t,t≠p->decide (t<p+1)=decide (t<p):=fun t ht=>decide_eq_decide.2 om
    have VW:=Eh (L:=L) ft;have lL:jp L p ps[p]=false->Pt ps L3 (vK L (p+1))/\en=g9 L ps (p+1):=fun hf=>⟨Ss.congr fun t o w8=>by
     by_cases Gz:t=p
     .subst Gz;rw[IE ft]at w8;cases w8;simp[vK,hf]
     .unfold vK;rw[jc t Gz],by rw[VW,hf,mX];simp⟩
    refine Ei L L2 L3 b p om ?_;refine ay (fun xw=>?_) (fun xw=>?_)
    .have xw:0<p:=by have h:(p:Int)>0:=xw;omega
     refine ag (lY XV) ?_;refine ag (bA aT.enc L3 XV) ?_;refine aC (fun cX=>?_) (fun cX=>?_)
     .refine aC (fun J1=>?_) (fun J1=>?_)
      .refine ag (lY XV) ?_;refine ag (bA aT.enc L3 XV) ?_;refine⟨trivial,?_⟩;have he:jp L p ps[p]=true:=by rw[OQ]at cX;unfold jp;rw[cX,J1];simp[xw]
       have hs:=Ss.set (j:=p) (x:=eR) (g:=vK L (p+1)) (fun o w8=>by rw[IE ft]at w8;cases w8;simp[vK,he]) (fun t o Gz _=>by unfold vK;rw[jc t Gz])
       refine⟨⟨p+1,L3.set p eR,true⟩,⟨ft,hs,(by rw[VW,he];simp)⟩,(show ps.length-(p+1)<ps.length-p by omega),View.o 8 [0,1,2,3,4,5,6] [] ?_ ?_⟩
       .repeat(first|exact .nil|refine .aq ?_|refine .put (.aO (ap om).symm) ?_|refine .eq rfl ?_)
       .exact(.pe rfl rfl rfl (.pr rfl rfl rfl (.pr rfl rfl rfl (.pt rfl rfl (LD L3 p) (.pe rfl rfl rfl (.pr rfl rfl rfl (.pn rfl rfl rfl)))))))
      .skip
       refine⟨⟨p+1,L3,en⟩,⟨ft,(lL (by unfold jp;rw[J1];simp)).1,(lL (by unfold jp;rw[J1];simp)).2⟩,(show ps.length-(p+1)<ps.length-p by omega),View.o 8 [0,1,2,3,4,5,6] [] ?_ ?_⟩
       .repeat(first|exact .nil|refine .aq ?_|refine .put (.aO (ap om).symm) ?_|refine .eq rfl ?_)
       .exact(.pe rfl rfl rfl (.pr rfl rfl rfl (.pr rfl rfl rfl (.pr rfl rfl rfl (.pe rfl rfl rfl (.pr rfl rfl rfl (.pn rfl rfl rfl)))))))
     .rw[OQ]at cX;refine⟨⟨p+1,L3,en⟩,⟨ft,(lL (by unfold jp;rw[cX];simp)).1,(lL (by unfold jp;rw[cX];simp)).2⟩,(show ps.length-(p+1)<ps.length-p by omega),View.o 8 [0,1,2,3,4,5,6] [] ?_ ?_⟩
      .repeat(first|exact .nil|refine .aq ?_|refine .put (.aO (ap om).symm) ?_|refine .eq rfl ?_)
      .exact(.pe rfl rfl rfl (.pr rfl rfl rfl (.pr rfl rfl rfl (.pr rfl rfl rfl (.pe rfl rfl rfl (.pr rfl rfl rfl (.pn rfl rfl rfl)))))))
    .have xw:p=0:=by have h:¬(p:Int)>0:=xw;omega
     refine⟨⟨p+1,L3,en⟩,⟨ft,(lL (by simp[jp,xw])).1,(lL (by simp[jp,xw])).2⟩,(show ps.length-(p+1)<ps.length-p by omega),View.o 8 [0,1,2,3,4,5,6] [] ?_ ?_⟩
     .repeat(first|exact .nil|refine .aq ?_|refine .put (.aO (ap om).symm) ?_|refine .eq rfl ?_)
     .exact(.pe rfl rfl rfl (.pr rfl rfl rfl (.pr rfl rfl rfl (.pr rfl rfl rfl (.pe rfl rfl rfl (.pr rfl rfl rfl (.pn rfl rfl rfl)))))))
   .have h9:ps.length<=p:=vM h;have ue:p=ps.length:=om;subst ue;refine⟨ax en,_,View.o 7 [0,1,2,3] [] (.eq rfl .nil) (.pe rfl rfl rfl (.pr rfl rfl rfl (.pr rfl rfl rfl (.pn rfl rfl rfl)))),L,L2,L3,en,⟨⟨b,hb,BX,AY⟩,Ss,mX⟩,rfl,rfl⟩
theorem OR(l:List Obj)(ops:List bi)(ps:List aT)(g:∀o,o∈l->o.sm)(hl:l.length<=4194304)(ho:ops.length<=4194304)(fW:ps.length<=4194304)(mJ:∀p,p∈ps->p.aJ.length<=10):
  au Tryz.prog 86 [.rv (.one (.ptr 0 0))] [.var [.row 1 9 0 none,.row 2 2 0 none,.row 3 4 0 none],.row 9 (af (l.map Obj.enc)),.row 2 (af (ops.map bi.enc)),.row 4 (af (ps.map aT.enc))]
   (fun r m=>∃L L2 L3 en,cL l ops ps L L2 L3 en/\r=ax en/\m=[.var [.row 1 9 0 none,.row 2 2 0 none,.row 3 4 0 none],.row 9 (af (L.map Obj.enc)),.row 2 (af (L2.map bi.enc)),.row 4 (af (L3.map aT.enc))]):=
 bJ (aX Tryz.func86 l86 (Ip l ops ps g hl ho fW mJ)) fun r m1 h=>h
structure dF(l:List Obj)(ops:List bi)(ps:List aT):Prop where
 sm:∀o,o∈l->o.sm
 ll:l.length<=4194304
 lo:ops.length<=4194304
 lp:ps.length<=4194304
 sl:∀p,p∈ps->p.aJ.length<=10
 ne:ps≠[]
theorem LH:eQ.sm:=⟨⟨⟨[],rfl⟩,⟨[],rfl⟩,fun q hq=>by simp[eQ]at hq⟩,by simp[eQ],by simp[eQ],by simp[eQ],fun q hq=>by simp[eQ]at hq⟩
theorem Pt.all{α:Type}{l L:List α}{f:Nat->α->α}(h:Pt l L f){Q:α->Prop}(hf:∀(t:Nat)o,l[t]? =some o->Q (f t o)):∀x,x∈L->Q x:=by
 intro x hx;obtain⟨t,ht⟩:=Xf hx;have aB:t<l.length:=by have:=(Mh.1 ht).1;rw[h.1]at this;exact this
 have:=h.2 t l[t] (IE aB);rw[ht]at this;cases this;exact hf t _ (IE aB)
theorem cL.kr{l:List Obj}{ops:List bi}{ps:List aT}{L:List Obj}{L2:List bi}{L3:List aT}{en:Bool}(h:cL l ops ps L L2 L3 en)(k:dF l ops ps):dF L L2 L3:=by
 obtain⟨b,hb,hP,AY⟩:=h.ex;refine⟨hP.all fun t o ho=>?_,by rw[hP.1];exact k.ll,by rw[AY.1];exact k.lo,by rw[h.pr.1];exact k.lp,h.pr.all (Q:=fun p=>p.aJ.length<=10) fun t o ho=>?_,fun e=>k.ne (Z1 (by rw[<-h.pr.1,e];rfl))⟩
 .have hs:=k.sm o (Rq ho);unfold cy;split
  .exact LH
  .split
   .exact⟨⟨hs.t.1,hs.t.2.1,hs.t.2.2⟩,hs.d,hs.e,hs.q,hs.qd⟩
   .exact hs
 .unfold vK;split
  .simp[eR]
  .exact k.sl o (Rq ho)
def kT(ps:List aT):Nat:=(ps.filter fun p=>p.aQ).length
theorem BY:∀(a b:List aT),b.length=a.length->(∀(t:Nat)x y,a[t]? =some x->b[t]? =some y->y.aQ=true->x.aQ=true)->kT b<=kT a/\((∃(t:Nat)(x y:aT),a[t]? =some x/\b[t]? =some y/\x.aQ=true/\y.aQ=false)->kT b<kT a)
 | [],[],_,_=>⟨SS _,fun⟨t,x,y,h,_⟩=>by simp at h⟩
 | [],_::_,h,_=>by simp at h
 |_::_,[],h,_=>by simp at h
 |x::a,y::b,h,hm=>by
  obtain⟨VX,Zt⟩:=BY a b (by simpa using h) (fun t u v hu hv=>hm (t+1) u v (by simpa using hu) (by simpa using hv))
  have h0:=hm 0 x y aG aG;refine⟨?_,fun⟨t,u,v,hu,hv,VY,uB⟩=>?_⟩
  .unfold kT at VX⊢;cases hx:x.aQ<;>cases hy:y.aQ<;>simp[hx,hy]at h0⊢<;>omega
  .cases t with
   |zero=>
    simp at hu hv;subst hu hv;unfold kT at VX⊢;simp[VY,uB];omega
   |succ t=>
    have:=Zt ⟨t,u,v,by simpa using hu,by simpa using hv,VY,uB⟩
    unfold kT at this⊢;cases hx:x.aQ<;>cases hy:y.aQ<;>simp[hx,hy]at h0⊢<;>omega
theorem cL.kT{l:List Obj}{ops:List bi}{ps:List aT}{L:List Obj}{L2:List bi}{L3:List aT}(h:cL l ops ps L L2 L3 true):kT L3<Go.Proofs.YtojhmadmlnfpcaaGreatDoor.kT ps:=by
 have mX:=h.en;unfold g9 at mX;have mX:=mX.symm;rw[abt]at mX;obtain⟨t,ht,zN⟩:=mX;have J2:t<ps.length:=by simpa using ht
 rw[IE J2]at zN;have zN:jp L t ps[t]=true:=zN;refine(BY ps L3 h.pr.1 (fun i x y hx hy hl=>?_)).2 ⟨t,ps[t],eR,IE J2,?_,?_,rfl⟩
 .have:=h.pr.2 i x hx;rw[hy]at this;cases this;unfold vK at hl;split at hl
  .simp[eR]at hl
  .exact hl
 .have:=h.pr.2 t _ (IE J2);rw[this];simp[vK,zN,J2]
 .unfold jp at zN;simp at zN;exact zN.2.1
structure Kr where
 l:List Obj
 ops:List bi
 ps:List aT
inductive gQ(k:Kr):Kr->Prop
 |refl:gQ k k
 |step {a b:Kr} (h:gQ k a) (ho:cL a.l a.ops a.ps b.l b.ops b.ps true):gQ k b
theorem LI{σ:Nat->Nat}{m:Mem}{Z:Nat->Prop}{p:Option Nat}{a b:Dt}(h:a=b):qA σ m Z p (.aa a) (.aa b):=h▸ .aO (.aa a)
theorem Ej(a:Kr)(ha:dF a.l a.ops a.ps){K:CV->Mem->Prop}(x0:Bk)(h:∀(c:Kr)en,cL a.l a.ops a.ps c.l c.ops c.ps en->K (ax en) [x0,.var z3,.var [.row 3 9 0 none,.row 4 2 0 none,.row 5 4 0 none],.row 9 (af (c.l.map Obj.enc)),.row 2 (af (c.ops.map bi.enc)),.row 4 (af (c.ps.map aT.enc))]):
  au Tryz.prog 86 [.rv (.one (.ptr 2 0))] [x0,.var z3,.var [.row 3 9 0 none,.row 4 2 0 none,.row 5 4 0 none],.row 9 (af (a.l.map Obj.enc)),.row 2 (af (a.ops.map bi.enc)),.row 4 (af (a.ps.map aT.enc))] K:=by
 refine bu [2,3,4,5] 6 rfl rfl rfl rfl (args0:=[.rv (.one (.ptr 0 0))]) rfl (fun i b' hi=>?_) (OR a.l a.ops a.ps ha.sm ha.ll ha.lo ha.lp ha.sl) (fun r m1 hr=>?_)
 .match i,hi with
  |0,hi=>cases hi;exact .inr ⟨fun h=>h,_,rfl,.eq rfl aG⟩
  |1,hi=>cases hi;exact .inr ⟨fun h=>h,_,rfl,.bM rfl⟩
  |2,hi=>cases hi;exact .inr ⟨fun h=>h,_,rfl,.bM rfl⟩
  |3,hi=>cases hi;exact .inr ⟨fun h=>h,_,rfl,.bM rfl⟩
  |n+4,hi=>simp at hi
 .obtain⟨L,L2,L3,en,ho,rfl,rfl⟩:=hr;refine⟨SS _,?_⟩;have e:∀(s:Nat)(ds:List (List Dt)),(Bk.row s (af ds)).aO (sg [2,3,4,5] 6)= .row s (af ds):=fun s ds=>by simp only[Bk.aO,db]
  show K _ [x0,.var z3,.var [.row 3 9 0 none,.row 4 2 0 none,.row 5 4 0 none],(Bk.row 9 (af (L.map Obj.enc))).aO (sg [2,3,4,5] 6),(Bk.row 2 (af (L2.map bi.enc))).aO (sg [2,3,4,5] 6),(Bk.row 4 (af (L3.map aT.enc))).aO (sg [2,3,4,5] 6)];rw[e,e,e];exact h ⟨L,L2,L3⟩ en ho
def c89:LF:= ⟨16,[.tmp 3],(.seq (.ai [qu 2 (.box 0),qu 3 (.aH (qb false))]) (.seq (.ai [qf 4 0 2,ql 5 4,qu 6 (.aF .eql 5 (qi 5)),qm 7 6,qg 8 (.br 6 2) 7 true,qg 9 (.load false 1 8) 7 true,qg 10 (.br 2 1) 7 true,qg 11 (.load false 1 10) 7 true,qg 12 (.len 1 11) 7 true,qg 13 (.aF .sub 12 (qi 1)) 7 true,qg 14 (.aF .eql 9 13) 7 true,qu 15 (.pick 7 14 (qb false)),qm 3 15]) .ret))⟩
theorem l89:bx Tryz.prog Tryz.f89=some c89:=by kernel_rfl
theorem Ek(l:List Obj)(hb:l.length<=4194304)(F:Nat)(cs:List Dt)(q:Obj->Bool)(hF:∀s,∀K:CV->Mem->Prop,K (ax (q s)) [.var (cs.map .aa)]->au Tryz.prog F [s.cv,.rv (.one (.ptr 0 0))] [.var (cs.map .aa)] K):
  body Tryz.prog c128 [b8 l,.rv (.one (.fn F [0]))] [.var (cs.map .aa)] (fun r m=>r=an .i64 (nC q l)/\m=[.var (cs.map .aa)]):=by
 refine aK (fun k=>k<=l.length/\∀(j:Nat)s,j<k->l[j]? =some s->q s=false) [0,1,7] (fun k=>[(8,an .i64 (k:Nat))]) (fun _=>[.var (cs.map .aa)]) (fun k=>l.length-k) 0 ⟨Wi _,fun j s h=>absurd h (abb j)⟩ ?_ (fun k hk=>?_)
 .refine View.o1 1 [0] [] ?_
  .exact .pt rfl rfl (.jn rfl) (.nil _)
 .refine ay (fun h=>?_) (fun h=>?_)
  .have aB:k<l.length:=by have h:(k:Int)<((l.map Obj.enc).length:Int):=h;rw[Nq]at h;omega
   refine ag (oZ aB) ?_;have hi:=IE aB;have VV:=kO (q:=q) aB;generalize l[k]=o at hi VV;refine hF o _ ?_;refine aC (fun Gx=>?_) (fun Gx=>?_)
   .rw[VV Gx hk.2];exact⟨rfl,rfl⟩
   .refine⟨k+1,⟨aB,fun j s hj hs=>?_⟩,(show l.length-(k+1)<l.length-k by omega),View.o 1 [0] [] ?_ ?_⟩
    .rcases ZX j k with h5|h5
     .exact hk.2 j s h5 hs
     .have:j=k:=om;subst this;rw[hi]at hs;cases hs;exact Gx
    .repeat(first|exact .nil|refine .aq ?_|refine .put (.aO (ap om).symm) ?_|refine .eq rfl ?_)
    .exact .pt rfl rfl (.jn rfl) (.nil _)
  .have ew:¬(k:Int)<((l.map Obj.enc).length:Int):=h;rw[Nq]at ew;rw[mA fun j s hs=>hk.2 j s (by have:=(Mh.1 hs).1;omega) hs]
   exact⟨rfl,rfl⟩
theorem BZ(l:List Obj)(hb:l.length<=4194304)(F:Nat)(cs:List Dt)(q:Obj->Bool)(hF:∀s,∀K:CV->Mem->Prop,K (ax (q s)) [.var (cs.map .aa)]->au Tryz.prog F [s.cv,.rv (.one (.ptr 0 0))] [.var (cs.map .aa)] K):
  body Tryz.prog c87 [b8 l,.rv (.one (.fn F [0]))] [.var (cs.map .aa)] (fun r m=>r=ax (l.any q)/\m=[.var (cs.map .aa)]):=by
 refine(aX Tryz.func128 l128 (Ek l hb F cs q hF)).mono fun r m⟨hr,hm⟩=>?_
 subst hr hm;refine⟨?_,rfl⟩;show ax _=ax _;rw[<-rk]
theorem sB(l:List Obj)(hb:l.length<=4194304)(F:Nat)(cs:List Dt)(q:Obj->Bool)(hF:∀s,∀K:CV->Mem->Prop,K (ax (q s)) [.var (cs.map .aa)]->au Tryz.prog F [s.cv,.rv (.one (.ptr 0 0))] [.var (cs.map .aa)] K)(K:CV->Mem->Prop)(h:K (ax (l.any q)) [.var (cs.map .aa)]):
  au Tryz.prog 87 [b8 l,.rv (.one (.fn F [0]))] [.var (cs.map .aa)] K:=
 (aX Tryz.func87 l87 (BZ l hb F cs q hF)).mono fun r m⟨hr,hm⟩=>by subst hr hm;exact h
def c46:LF:= ⟨120,[.cell true 3 2],(.seq (.ai [qu 1 (.box 0),qu 2 (.alloc [.aI,.aI,.aI])]) (.seq (.ai [qL 6 3 1,qu 7 (qc 66 [6]),qu 3 (.alloc [.aI,.aI,.aI]),qw (.store 3 3 7)]) (.seq (.block 0 (.loop (.seq (.seq (.ai [qu 8 (qc 86 [3])]) (.cond 8 .skip (.exit 0))) (.block 1 .skip)))) (.seq (.block 2 (.loop (.seq (.seq (.ai [qf 9 0 3,ql 10 9,qu 11 (.len 1 10),qu 12 (.aF .gtr 11 (qi 1)),qm 13 12,qg 14 (.br 0 3) 13 true,qg 15 (.load false 1 14) 13 true,qg 16 (.br 0 3) 13 true,qg 17 (.load false 1 16) 13 true,qg 18 (.len 1 17) 13 true,qg 19 (.aF .sub 18 (qi 1)) 13 true,qg 20 (.bW 9 15 19) 13 true,qg 21 (.br 0 20) 13 true,qg 22 (.load false 1 21) 13 true,qg 23 (.aF .eql 22 (qi 0)) 13 true,qu 24 (.pick 13 23 (qb false))]) (.cond 24 .skip (.exit 2))) (.block 3 (.ai [qf 25 0 3,ql 26 25,qf 27 0 3,ql 28 27,qu 29 (.len 1 28),qu 30 (.aF .sub 29 (qi 1)),qu 31 (.nh 9 26 none (some 30) none),qf 32 0 3,qw (.store 1 32 31)]))))) (.cu (.seq (.block 4 (.loop (.seq (.seq (.ai [qf 33 1 3,ql 34 33,qu 35 (.len 1 34),qu 36 (.aF .gtr 35 (qi 0)),qm 37 36,qg 38 (.br 1 3) 37 true,qg 39 (.load false 1 38) 37 true,qg 40 (.br 1 3) 37 true,qg 41 (.load false 1 40) 37 true,qg 42 (.len 1 41) 37 true,qg 43 (.aF .sub 42 (qi 1)) 37 true,qg 44 (.bW 2 39 43) 37 true,qg 45 (.br 0 44) 37 true,qg 46 (.load false 1 45) 37 true,qg 47 (.aF .lss 46 (qi 0)) 37 true,qu 48 (.pick 37 47 (qb false))]) (.cond 48 .skip (.exit 4))) (.block 5 (.ai [qf 49 1 3,ql 50 49,qf 51 1 3,ql 52 51,qu 53 (.len 1 52),qu 54 (.aF .sub 53 (qi 1)),qu 55 (.nh 2 50 none (some 54) none),qf 56 1 3,qw (.store 1 56 55)]))))) (.seq (.cu (.seq (.ai [qf 57 2 3,ql 58 57,qu 59 (.len 1 58),qu 60 (.aH (qi 0))]) (.block 6 (.loop (.seq (.ai [qu 61 (.aF .lss 60 59)]) (.seq (.cond 61 .skip (.exit 6)) (.seq (.block 7 (.seq (.ai [qm 62 60,qu 4 (.alloc [qd 0]),qw (.store 1 4 62)]) (.seq (.ai [qf 63 0 3,ql 64 63,qu 65 (.fn 88 [4]),qu 66 (qc 87 [64,65]),qm 5 66]) (.seq (.ai [ql 67 4,qu 68 (.aF .gtr 67 (qi 0)),qm 69 68,qg 70 (.br 2 3) 69 true,qg 71 (.load false 1 70) 69 true,qg 72 (.load false 1 4) 69 true,qg 73 (.bW 4 71 72) 69 true,qg 74 (.br 0 73) 69 true,qg 75 (.load false 1 74) 69 true,qg 76 (.un .not 75) 69 true,qu 77 (.pick 69 76 (qb false)),qm 78 77,qg 79 (.aH 5) 78 true,qg 80 (.un .not 79) 78 true,qu 81 (.pick 78 80 (qb false))]) (.cond 81 (.ai [qf 82 2 3,ql 83 82,ql 84 4,qu 85 (.build [(.aa (.val (.bool false))),(.aa (.val (.bool false))),qd 0,.aI] []),qu 86 (.bW 4 83 84),qw (.store 4 86 85)]) .skip))))) (.ai [qu 87 (.aF .add 60 (qi 1)),qm 60 87])))))))) (.cu (.seq (.block 8 (.loop (.seq (.seq (.ai [qf 88 2 3,ql 89 88,qu 90 (.len 1 89),qu 91 (.aF .gtr 90 (qi 1)),qm 92 91,qg 93 (.br 2 3) 92 true,qg 94 (.load false 1 93) 92 true,qg 95 (.br 2 3) 92 true,qg 96 (.load false 1 95) 92 true,qg 97 (.len 1 96) 92 true,qg 98 (.aF .sub 97 (qi 1)) 92 true,qg 99 (.bW 4 94 98) 92 true,qg 100 (.br 0 99) 92 true,qg 101 (.load false 1 100) 92 true,qg 102 (.un .not 101) 92 true,qu 103 (.pick 92 102 (qb false)),qm 104 103,qg 105 (.br 0 3) 104 true,qg 106 (.load false 1 105) 104 true,qg 107 (.fn 89 [3]) 104 true,qg 108 (qc 87 [106,107]) 104 true,qg 109 (.un .not 108) 104 true,qu 110 (.pick 104 109 (qb false))]) (.cond 110 .skip (.exit 8))) (.block 9 (.ai [qf 111 2 3,ql 112 111,qf 113 2 3,ql 114 113,qu 115 (.len 1 114),qu 116 (.aF .sub 115 (qi 1)),qu 117 (.nh 4 112 none (some 116) none),qf 118 2 3,qw (.store 1 118 117)]))))) (.seq (.ai [qL 119 3 3,qw (.store 3 2 119)]) .ret))))))))))⟩
theorem l46:bx Tryz.prog Tryz.f46=some c46.er:=by kernel_rfl
theorem B0(o:Obj)(a c:Dt)(ps:List aT):body Tryz.prog c89 [o.cv,.rv (.one (.ptr 0 0))] [.var ([a,c,ff ps].map .aa)] (fun r m=>r=ax (cH (IntKind.i64.wrap (((ps.map aT.enc).length:Int)-1)) o)/\∃ex,m= .var ([a,c,ff ps].map .aa)::ex):=by
 refine aC (fun h=>?_) (fun h=>?_)
 .refine⟨?_,_,rfl⟩;show ax _=ax _;rw[cH,h];rfl
 .refine⟨?_,_,rfl⟩;show ax _=ax _;rw[cH,h];rfl
theorem Su(o:Obj)(a c:Dt)(ps:List aT)(K:CV->Mem->Prop)(h:K (ax (cH (IntKind.i64.wrap (((ps.map aT.enc).length:Int)-1)) o)) [.var ([a,c,ff ps].map .aa)]):au Tryz.prog 89 [o.cv,.rv (.one (.ptr 0 0))] [.var ([a,c,ff ps].map .aa)] K:=
 eF rfl (aX Tryz.func89 l89 (B0 o a c ps)) h
structure B2{α:Type}(q:Nat->α->Bool)(mn:Nat)(L:List α)(n:Nat):Prop where
 le:n<=L.length
 mn:min mn L.length<=n
 dr:∀(t:Nat)o,n<=t->L[t]? =some o->q t o=true
structure iG{α:Type}(q:Nat->α->Bool)(mn:Nat)(L:List α)(n:Nat):Prop where
 t:B2 q mn L n
 e:n<=mn\/∃o,L[n-1]? =some o/\q (n-1) o=false
theorem B2.start{α:Type}(q:Nat->α->Bool)(mn:Nat)(L:List α):B2 q mn L L.length:=
 ⟨SS _,Nat.min_le_right _ _,fun t o h ho=>by have:=(Mh.1 ho).1;omega⟩
theorem B2.step{α:Type}{q:Nat->α->Bool}{mn:Nat}{L:List α}{n:Nat}(h:B2 q mn L n)(hn:mn<n)(hl:n-1<L.length)(hq:q (n-1) L[n-1]=true):B2 q mn L (n-1):=
 ⟨om,om,fun t o ht ho=>by
  rcases ZX t n with h1|h1
  .have:t=n-1:=om;subst this;rw[IE hl]at ho;cases ho;exact hq
  .exact h.dr t o h1 ho⟩
theorem gF{α:Type}{L:List α}{n:Nat}(h:n<=L.length):(L.take n).length=n:=by rw[Z4];omega
theorem vN{α:Type}(f:α->List Dt)(L:List α){n:Nat}(h:n<=L.length):(((L.take n).map f).take (n-1)).drop 0=(L.take (n-1)).map f:=by rw[ac6,<-acu,List.take_take,acZ om]
theorem vQ{α:Type}(f:α->List Dt)(L:List α){n:Nat}(h1:0<n)(h:n<=L.length):cR ((L.take n).map f) ((n-1:Nat):Int)=some (f (L[n-1]'(by omega))):=by rw[bn,Q8,ab1 om,IE om];rfl
def qO(_:Nat)(o:Obj):Bool:=o.ah==0
def qP(_:Nat)(o:bi):Bool:=decide (o.bD<0)
def qZ(O:List Obj)(t:Nat)(o:aT):Bool:=decide (0<t)&&(!o.aQ&& !(O.any (cH (t:Int))))
def ru(O:List Obj)(k:Nat)(t:Nat)(o:aT):aT:=if(decide (t<k)&&qZ O t o)=true then eR else o
def qR(O:List Obj)(t:Nat)(o:aT):Bool:= !o.aQ&& !(O.any (cH (t:Int)))
structure gl(c:Kr)(d:Kr):Prop where
 ex:∃(n1 n2 n3:Nat)(P:List aT),iG qO 1 c.l n1/\iG qP 0 c.ops n2/\Pt c.ps P (ru (c.l.take n1) c.ps.length)/\iG (qR (c.l.take n1)) 1 P n3/\d=⟨c.l.take n1,c.ops.take n2,P.take n3⟩
def KS(k:Kr)(r:CV)(m:Mem):Prop:=∃a c d,gQ k a/\cL a.l a.ops a.ps c.l c.ops c.ps false/\gl c d/\cJ m r (cP d.l d.ops d.ps)
def Zu(k:Kr):Ex->St->Prop:=mg Tryz.prog c46.kD (KS k)
def T4:LC:=lX (bv (bv (bv (bv c46.code))))
def T57:LC:=lX (pY (bv T4))
def R8:LC:=bv (bv T4)
def Zv:List CV:=iL 120 [(2,.rv (.one (.ptr 1 0))),(3,.rv (.one (.ptr 2 0)))]
theorem Zw(m:Mem)(d:Kr):cJ m (.rv (.agg [.aa (cU d.l),.aa (d5 d.ops),.aa (ff d.ps)])) (cP d.l d.ops d.ps):=cJ.self rfl
theorem Zx(k a c:Kr)(ha:gQ k a)(hc:cL a.l a.ops a.ps c.l c.ops c.ps false)(hk:dF c.l c.ops c.ps)(n1 n2:Nat)(h1:iG qO 1 c.l n1)(h2:iG qP 0 c.ops n2)(P:List aT)(O:List Obj)(hO:O=c.l.take n1)(hP:Pt c.ps P (ru (c.l.take n1) c.ps.length)):aw Tryz.prog 0 (lX R8) (Zu k) ⟨Zv,[.aW,.var z3,.var [.aa (cU O),.aa (d5 (c.ops.take n2)),.aa (ff P)]]⟩:=by
 have VZ:P.length<=4194304:=by rw[hP.1];exact hk.lp
 have XW:O.length<=4194304:=by rw[hO,Z4];have:=hk.ll;omega
 have Sv:∀(n:Nat)(m:Mem),B2 (qR O) 1 P n->(n<=1\/∃o,P[n-1]? =some o/\qR O (n-1) o=false)->KS k (.rv (.agg [.aa (cU O),.aa (d5 (c.ops.take n2)),.aa (ff (P.take n))])) m:=fun n m hn he=>
  ⟨a,c,⟨O,c.ops.take n2,P.take n⟩,ha,hc,⟨n1,n2,n,P,h1,h2,hP,by rw[<-hO];exact⟨hn,he⟩,by rw[hO]⟩,Zw m ⟨O,c.ops.take n2,P.take n⟩⟩
 refine aK (fun n=>B2 (qR O) 1 P n) [2,3] (fun _=>[]) (fun n=>[.aW,.var z3,.var [.aa (cU O),.aa (d5 (c.ops.take n2)),.aa (ff (P.take n))]]) (fun n=>n) P.length (.start _ _ _) ?_ (fun n hn=>?_)
 .refine View.o1 3 [0,1,2] [] ?_
  .exact(.aW (.pe rfl rfl rfl (.pt rfl rfl (eP.var (.cons (.aO (.aa _)) (.cons (.aO (.aa _)) (.cons (LI (by rw[abp])) .nil)))) (.nil _))))
 have hn:B2 (qR O) 1 P n:=hn;have ld:=hn.le;refine ay (fun h=>?_) (fun h=>?_)
 .have pQ:1<n:=by have h:(((P.take n).map aT.enc).length:Int)>1:=h;rw[Nq,gF ld]at h;omega
  have hz:IntKind.i64.wrap ((((P.take n).map aT.enc).length:Int)-1)=((n-1:Nat):Int):=by rw[Nq,gF ld,gY om om];omega
  have aB:n-1<P.length:=om;have hg:=vQ aT.enc P om ld;rw[<-hz]at hg;have nr:=IE aB;have pu:=hn.step om aB;generalize P[n-1]=x at hg nr pu;have hg:cR ((P.take n).map aT.enc) (IntKind.i64.wrap ((((P.take n).map aT.enc).length:Int)-1))=some [.val (.bool x.aQ),.val (.bool x.fenced),.val (.int .i64 x.code),iu x.aJ]:=hg;refine ag hg ?_;refine aC (fun cX=>?_) (fun cX=>?_)
  .refine fe (args0:=[b8 O,.rv (.one (.fn 89 [0]))]) (cs:=[cU O,d5 (c.ops.take n2),ff (P.take n)]) 2 rfl rfl (r0:=ax (O.any (cH (IntKind.i64.wrap ((((P.take n).map aT.enc).length:Int)-1))))) rfl (fun K hK=>sB O XW 89 _ _ (fun s K hK=>Su s _ _ _ K hK) K hK) ?_
   rw[hz];refine aC (fun J1=>?_) (fun J1=>?_)
   .have hq:qR O (n-1) x=true:=by unfold qR;rw[cX,J1];rfl
    refine ag (x:=n-1) (by show nR (an .i64 (IntKind.i64.wrap ((((P.take n).map aT.enc).length:Int)-1)))=_;rw[hz];rfl) ?_
    refine bY (by simp[abr];omega) ?_
    refine⟨n-1,pu hq,(show n-1<n by omega),View.o1 3 [0,1,2] [] ?_⟩
    .exact(.aW (.pe rfl rfl rfl (.pt rfl rfl (eP.var (.cons (.aO (.aa _)) (.cons (.aO (.aa _)) (.cons (LI (congrArg (Dt.sl 4) (vN aT.enc P ld))) .nil)))) (.nil _))))
   .have hq:qR O (n-1) x=false:=by unfold qR;rw[cX,J1];rfl
    exact Sv n _ hn (.inr ⟨x,nr,hq⟩)
  .have hq:qR O (n-1) x=false:=by unfold qR;rw[cX];rfl
   exact Sv n _ hn (.inr ⟨x,nr,hq⟩)
 .have pQ:n<=1:=by have h:¬(((P.take n).map aT.enc).length:Int)>1:=h;rw[Nq,gF ld]at h;omega
  exact Sv n _ hn (.inl pQ)
structure StZ where
 p:Nat
 P:List aT
theorem dF.Zy{l:List Obj}{ops:List bi}{ps:List aT}(h:dF l ops ps)(n:Nat):(l.take n).length<=4194304:=by rw[Z4];have:=h.ll;omega
theorem QY(k a c:Kr)(ha:gQ k a)(hc:cL a.l a.ops a.ps c.l c.ops c.ps false)(hk:dF c.l c.ops c.ps)(n1 n2:Nat)(h1:iG qO 1 c.l n1)(h2:iG qP 0 c.ops n2):
  aw Tryz.prog 0 T57 (pM (aw Tryz.prog 0 R8) (Zu k)) ⟨Zv,[.aW,.var z3,.var [.aa (cU (c.l.take n1)),.aa (d5 (c.ops.take n2)),.row 3 4 0 none],.row 4 (af (c.ps.map aT.enc))]⟩:=by
 have fW:=hk.lp;have XW:=hk.Zy n1;generalize hO:c.l.take n1=O at XW;refine aK (fun(s:StZ)=>s.p<=c.ps.length/\Pt c.ps s.P (ru O s.p)) [2,3,59] (fun s=>[(60,an .i64 (s.p:Nat))]) (fun s=>[.aW,.var z3,.var [.aa (cU O),.aa (d5 (c.ops.take n2)),.row 3 4 0 none],.row 4 (af (s.P.map aT.enc))]) (fun s=>c.ps.length-s.p) ⟨0,c.ps⟩ ⟨Wi _,(Pt.refl c.ps).congr fun t o _=>by simp[ru]⟩ ?_ (fun s hs=>?_)
 .refine View.o1 4 [0,1,2,3] [] ?_
  .exact(.aW (.pe rfl rfl rfl (.pt rfl rfl (eP.var (.cons (.aO (.aa _)) (.cons (.aO (.aa _)) (.cons (.aO (.row 3 4 0 none)) .nil)))) (.pn rfl rfl rfl))))
 obtain⟨p,P⟩:=s;obtain⟨hp,hP⟩:=hs;have hp:p<=c.ps.length:=hp;have hP:Pt c.ps P (ru O p):=hP;have VZ:=hP.1;refine ay (fun h=>?_) (fun h=>?_)
 .have ft:p<c.ps.length:=vL h;obtain⟨OS,Ir⟩:=hP.at ft;have Ir:P[p]=c.ps[p]:=by rw[Ir];simp[ru]
  have jc:∀t,t≠p->decide (t<p+1)=decide (t<p):=fun t ht=>decide_eq_decide.2 om
  have lL:qZ O p c.ps[p]=false->Pt c.ps P (ru O (p+1)):=fun hf=>hP.congr fun t o w8=>by
   by_cases Gz:t=p
   .subst Gz;rw[IE ft]at w8;cases w8;simp[ru,hf]
   .unfold ru;rw[jc t Gz]
  refine fe (args0:=[b8 O,.rv (.one (.fn 88 [0]))]) (cs:=[.val (.int .i64 (p:Nat))]) 4 rfl rfl (r0:=ax (O.any (cH (p:Int)))) rfl (fun K hK=>sB O XW 88 _ _ (fun s K hK=>Sr s _ K hK) K hK) ?_
  refine ay (fun xw=>?_) (fun xw=>?_)
  .have xw:0<p:=by have h:(p:Int)>0:=xw;omega
   refine ag (lY OS) ?_;refine ag (bA aT.enc P OS) ?_;refine aC (fun cX=>?_) (fun cX=>?_)
   .rw[Ir]at cX;refine aC (fun J1=>?_) (fun J1=>?_)
    .refine ag (lY OS) ?_;refine ag (bA aT.enc P OS) ?_;have he:qZ O p c.ps[p]=true:=by unfold qZ;rw[cX,J1];simp[xw]
     have hs:=hP.set (j:=p) (x:=eR) (g:=ru O (p+1)) (fun o w8=>by rw[IE ft]at w8;cases w8;simp[ru,he]) (fun t o Gz _=>by unfold ru;rw[jc t Gz])
     refine⟨⟨p+1,P.set p eR⟩,⟨ft,hs⟩,(show c.ps.length-(p+1)<c.ps.length-p by omega),View.o 5 [0,1,2,3] [] ?_ ?_⟩
     .repeat(first|exact .nil|refine .aq ?_|refine .put (.aO (ap om).symm) ?_|refine .eq rfl ?_)
     .exact(.aW (.pe rfl rfl rfl (.pt rfl rfl (eP.var (.cons (.aO (.aa _)) (.cons (.aO (.aa _)) (.cons (.aO (.row 3 4 0 none)) .nil)))) (.pt rfl rfl (LD P p) (.nil _)))))
    .skip
     refine⟨⟨p+1,P⟩,⟨ft,lL (by unfold qZ;rw[J1];simp)⟩,(show c.ps.length-(p+1)<c.ps.length-p by omega),View.o 5 [0,1,2,3] [] ?_ ?_⟩
     .repeat(first|exact .nil|refine .aq ?_|refine .put (.aO (ap om).symm) ?_|refine .eq rfl ?_)
     .exact(.aW (.pe rfl rfl rfl (.pt rfl rfl (eP.var (.cons (.aO (.aa _)) (.cons (.aO (.aa _)) (.cons (.aO (.row 3 4 0 none)) .nil)))) (.pn rfl rfl rfl))))
   .rw[Ir]at cX;refine⟨⟨p+1,P⟩,⟨ft,lL (by unfold qZ;rw[cX];simp)⟩,(show c.ps.length-(p+1)<c.ps.length-p by omega),View.o 5 [0,1,2,3] [] ?_ ?_⟩
    .repeat(first|exact .nil|refine .aq ?_|refine .put (.aO (ap om).symm) ?_|refine .eq rfl ?_)
    .exact(.aW (.pe rfl rfl rfl (.pt rfl rfl (eP.var (.cons (.aO (.aa _)) (.cons (.aO (.aa _)) (.cons (.aO (.row 3 4 0 none)) .nil)))) (.pn rfl rfl rfl))))
  .have xw:p=0:=by have h:¬(p:Int)>0:=xw;omega
   refine⟨⟨p+1,P⟩,⟨ft,lL (by simp[qZ,xw])⟩,(show c.ps.length-(p+1)<c.ps.length-p by omega),View.o 5 [0,1,2,3] [] ?_ ?_⟩
   .repeat(first|exact .nil|refine .aq ?_|refine .put (.aO (ap om).symm) ?_|refine .eq rfl ?_)
   .exact(.aW (.pe rfl rfl rfl (.pt rfl rfl (eP.var (.cons (.aO (.aa _)) (.cons (.aO (.aa _)) (.cons (.aO (.row 3 4 0 none)) .nil)))) (.pn rfl rfl rfl))))
 .have h9:c.ps.length<=p:=vM h;have ue:p=c.ps.length:=om;subst ue;rw[<-hO]at hP;refine eE [2,3] [] ([.aW,.var z3,.var [.aa (cU O),.aa (d5 (c.ops.take n2)),.aa (ff P)]]) (View.o1 4 [0,1,2] [3] ?_) ?_
  .exact(.aW (.pe rfl rfl rfl (.pt rfl rfl (eP.var (.cons (.aO (.aa _)) (.cons (.aO (.aa _)) (.cons (.e8 (dC.dJ (Z:=fun k=>bz [3] k=true) rfl rfl 0 none)) .nil)))) (.nil _))))
  exact Zx k a c ha hc hk n1 n2 h1 h2 P O hO.symm hP
theorem QZ(k a c:Kr)(ha:gQ k a)(hc:cL a.l a.ops a.ps c.l c.ops c.ps false)(hk:dF c.l c.ops c.ps)(n1:Nat)(h1:iG qO 1 c.l n1):
  aw Tryz.prog 0 T4 (Zu k) ⟨Zv,[.aW,.var z3,.var [.aa (cU (c.l.take n1)),.aa (d5 c.ops),.row 3 4 0 none],.row 4 (af (c.ps.map aT.enc))]⟩:=by
 have ic:=hk.lo;refine aK (fun n=>B2 qP 0 c.ops n) [2,3] (fun _=>[]) (fun n=>[.aW,.var z3,.var [.aa (cU (c.l.take n1)),.aa (d5 (c.ops.take n)),.row 3 4 0 none],.row 4 (af (c.ps.map aT.enc))]) (fun n=>n) c.ops.length (.start _ _ _) ?_ (fun n hn=>?_)
 .refine View.o1 4 [0,1,2,3] [] ?_
  .exact(.aW (.pe rfl rfl rfl (.pt rfl rfl (eP.var (.cons (.aO (.aa _)) (.cons (LI (by rw[abp])) (.cons (.aO (.row 3 4 0 none)) .nil)))) (.pn rfl rfl rfl))))
 have hn:B2 qP 0 c.ops n:=hn;have ld:=hn.le;refine ay (fun h=>?_) (fun h=>?_)
 .have pQ:0<n:=by have h:(((c.ops.take n).map bi.enc).length:Int)>0:=h;rw[Nq,gF ld]at h;omega
  have hz:IntKind.i64.wrap ((((c.ops.take n).map bi.enc).length:Int)-1)=((n-1:Nat):Int):=by rw[Nq,gF ld,gY om om];omega
  have aB:n-1<c.ops.length:=om;have hg:=vQ bi.enc c.ops om ld;rw[<-hz]at hg;have nr:=IE aB;have pu:=hn.step om aB;generalize c.ops[n-1]=x at hg nr pu;have hg:cR ((c.ops.take n).map bi.enc) (IntKind.i64.wrap ((((c.ops.take n).map bi.enc).length:Int)-1))=some [.val (.int .i64 x.bD),.val (.int .i64 x.dh)]:=hg;refine ag hg ?_;refine ay (fun hx=>?_) (fun hx=>?_)
  .have hq:qP (n-1) x=true:=decide_eq_true hx;refine ag (x:=n-1) (by show nR (an .i64 (IntKind.i64.wrap ((((c.ops.take n).map bi.enc).length:Int)-1)))=_;rw[hz];rfl) ?_
   refine bY (by simp[abr];omega) ?_
   refine⟨n-1,pu hq,(show n-1<n by omega),View.o1 4 [0,1,2,3] [] ?_⟩
   .exact(.aW (.pe rfl rfl rfl (.pt rfl rfl (eP.var (.cons (.aO (.aa _)) (.cons (LI (congrArg (Dt.sl 2) (vN bi.enc c.ops ld))) (.cons (.aO (.row 3 4 0 none)) .nil)))) (.pn rfl rfl rfl))))
  .have hq:qP (n-1) x=false:=decide_eq_false hx;refine eE [2,3] [] ([.aW,.var z3,.var [.aa (cU (c.l.take n1)),.aa (d5 (c.ops.take n)),.row 3 4 0 none],.row 4 (af (c.ps.map aT.enc))]) (View.o1 4 [0,1,2,3] [] ?_) ?_
   .exact(.aW (.pe rfl rfl rfl (.pt rfl rfl (eP.var (.cons (.aO (.aa _)) (.cons (.aO (.aa _)) (.cons (.aO (.row 3 4 0 none)) .nil)))) (.pn rfl rfl rfl))))
   exact QY k a c ha hc hk n1 n h1 ⟨hn,(.inr ⟨x,nr,hq⟩)⟩
 .have pQ:n<=0:=by have h:¬(((c.ops.take n).map bi.enc).length:Int)>0:=h;rw[Nq,gF ld]at h;omega
  refine eE [2,3] [] ([.aW,.var z3,.var [.aa (cU (c.l.take n1)),.aa (d5 (c.ops.take n)),.row 3 4 0 none],.row 4 (af (c.ps.map aT.enc))]) (View.o1 4 [0,1,2,3] [] ?_) ?_
  .exact(.aW (.pe rfl rfl rfl (.pt rfl rfl (eP.var (.cons (.aO (.aa _)) (.cons (.aO (.aa _)) (.cons (.aO (.row 3 4 0 none)) .nil)))) (.pn rfl rfl rfl))))
  exact QY k a c ha hc hk n1 n h1 ⟨hn,.inl pQ⟩
theorem El(k:Kr)(hk:dF k.l k.ops k.ps):body Tryz.prog c46 [cP k.l k.ops k.ps] [] (KS k):=by
 refine iv k.l k.ops k.ps ⟨hk.ll,fun o ho=>(hk.sm o ho).mL⟩ hk.lo hk.lp hk.sl hk.ne ?_
 refine aK (fun(a:Kr)=>gQ k a/\dF a.l a.ops a.ps) [2] (fun _=>[(3,.rv (.one (.ptr 2 0)))]) (fun a=>[.aW,.var z3,.var [.row 3 9 0 none,.row 4 2 0 none,.row 5 4 0 none],.row 9 (af (a.l.map Obj.enc)),.row 2 (af (a.ops.map bi.enc)),.row 4 (af (a.ps.map aT.enc))]) (fun a=>kT a.ps) k ⟨.refl,hk⟩ ?_ (fun a ha=>?_)
 .refine View.o1 6 [0,1,5,2,3,4] [] ?_
  .exact(.aW (.pe rfl rfl rfl (.pe rfl rfl rfl (.pr rfl rfl rfl (.pr rfl rfl rfl (.pn rfl rfl rfl))))))
 obtain⟨ha,N3⟩:=ha;refine Ej a N3 .aW fun c en ho=>?_
 refine aC (fun he=>?_) (fun he=>?_)
 .subst he;refine⟨c,⟨.step ha ho,ho.kr N3⟩,ho.kT,View.o1 6 [0,1,2,3,4,5] [] ?_⟩
  .exact(.aW (.pe rfl rfl rfl (.pe rfl rfl rfl (.pr rfl rfl rfl (.pr rfl rfl rfl (.pn rfl rfl rfl))))))
 .subst he;have hc:=ho;have Oh:=ho.kr N3;have UZ:=Oh.ll;refine aK (fun n=>B2 qO 1 c.l n) [2,3] (fun _=>[]) (fun n=>[.aW,.var z3,.var [.aa (cU (c.l.take n)),.aa (d5 c.ops),.row 3 4 0 none],.row 4 (af (c.ps.map aT.enc))]) (fun n=>n) c.l.length (.start _ _ _) ?_ (fun n hn=>?_)
  .refine View.o1 6 [0,1,2,5] [3,4] ?_
   .exact(.aW (.pe rfl rfl rfl (.pt rfl rfl (eP.var (.cons (by rw[abp];exact .e8 (dC.dJ (Z:=fun k=>bz [3,4] k=true) rfl rfl 0 none)) (.cons (.e8 (dC.dJ (Z:=fun k=>bz [3,4] k=true) rfl rfl 0 none)) (.cons (.aO (.row 3 4 0 none)) .nil)))) (.pn rfl rfl rfl))))
  have hn:B2 qO 1 c.l n:=hn;have ld:=hn.le;refine ay (fun h=>?_) (fun h=>?_)
  .have pQ:1<n:=by have h:(((c.l.take n).map Obj.enc).length:Int)>1:=h;rw[Nq,gF ld]at h;omega
   have hz:IntKind.i64.wrap ((((c.l.take n).map Obj.enc).length:Int)-1)=((n-1:Nat):Int):=by rw[Nq,gF ld,gY om om];omega
   have aB:n-1<c.l.length:=om;have hg:=vQ Obj.enc c.l om ld;rw[<-hz]at hg;have nr:=IE aB;have pu:=hn.step om aB;generalize c.l[n-1]=x at hg nr pu;have hg:cR ((c.l.take n).map Obj.enc) (IntKind.i64.wrap ((((c.l.take n).map Obj.enc).length:Int)-1))=some [.val (.int .i64 x.ah),.sl 1 x.data,.sl 2 x.ak,.val (.string x.target),.val (.int .i64 x.aD),.sl 4 (x.aj.map bw.enc),.val (.int .i64 x.aM),.val (.int .i64 x.am),.val (.int .i64 x.up)]:=hg;refine ag hg ?_;refine bI (fun hx=>?_) (fun hx=>?_)
   .have hq:qO (n-1) x=true:=(by unfold qO;simpa using hx)
    refine ag (x:=n-1) (by show nR (an .i64 (IntKind.i64.wrap ((((c.l.take n).map Obj.enc).length:Int)-1)))=_;rw[hz];rfl) ?_
    refine bY (by simp[abr];omega) ?_
    refine⟨n-1,pu hq,(show n-1<n by omega),View.o1 4 [0,1,2,3] [] ?_⟩
    .exact(.aW (.pe rfl rfl rfl (.pt rfl rfl (eP.var (.cons (LI (congrArg (Dt.sl 9) (vN Obj.enc c.l ld))) (.cons (.aO (.aa _)) (.cons (.aO (.row 3 4 0 none)) .nil)))) (.pn rfl rfl rfl))))
   .have hq:qO (n-1) x=false:=(by unfold qO;simpa using hx)
    refine eE [2,3] [] ([.aW,.var z3,.var [.aa (cU (c.l.take n)),.aa (d5 c.ops),.row 3 4 0 none],.row 4 (af (c.ps.map aT.enc))]) (View.o1 4 [0,1,2,3] [] ?_) ?_
    .exact(.aW (.pe rfl rfl rfl (.pt rfl rfl (eP.var (.cons (.aO (.aa _)) (.cons (.aO (.aa _)) (.cons (.aO (.row 3 4 0 none)) .nil)))) (.pn rfl rfl rfl))))
    exact QZ k a c ha hc Oh n ⟨hn,(.inr ⟨x,nr,hq⟩)⟩
  .have pQ:n<=1:=by have h:¬(((c.l.take n).map Obj.enc).length:Int)>1:=h;rw[Nq,gF ld]at h;omega
   refine eE [2,3] [] ([.aW,.var z3,.var [.aa (cU (c.l.take n)),.aa (d5 c.ops),.row 3 4 0 none],.row 4 (af (c.ps.map aT.enc))]) (View.o1 4 [0,1,2,3] [] ?_) ?_
   .exact(.aW (.pe rfl rfl rfl (.pt rfl rfl (eP.var (.cons (.aO (.aa _)) (.cons (.aO (.aa _)) (.cons (.aO (.row 3 4 0 none)) .nil)))) (.pn rfl rfl rfl))))
   exact QZ k a c ha hc Oh n ⟨hn,.inl pQ⟩
theorem LJ(k:Kr)(hk:dF k.l k.ops k.ps){m:Mem}{K:CV->Mem->Prop}(h:∀a c d,gQ k a->cL a.l a.ops a.ps c.l c.ops c.ps false->gl c d->K (cP d.l d.ops d.ps) m):au Tryz.prog 46 [cP k.l k.ops k.ps] m K:=by
 refine be (K0:=KS k) (cg Tryz.func46 l46 (El k hk)) (by simp[cP,cU,d5,ff,CV.dm,CC.dm,RV.dm]) fun r m1 hr=>?_
 obtain⟨a,c,d,h1,h2,h3,hf⟩:=hr;exact⟨_,hf,h a c d h1 h2 h3⟩
def jY(l L:List Obj):Prop:=L.length<=l.length/\∀(i:Nat)o,L[i]? =some o->o.ah≠0->∃o':Obj,l[i]? =some o'/\o={o' with aD:=o.aD}
def jZ(p P:List aT):Prop:=P.length<=p.length/\∀(i:Nat)x,P[i]? =some x->x.aQ=true->p[i]? =some x
theorem jY.refl(l:List Obj):jY l l:=⟨SS _,fun i o h _=>⟨o,h,rfl⟩⟩
theorem jY.trans{a b c:List Obj}(h1:jY a b)(h2:jY b c):jY a c:=by
 refine⟨abT h2.1 h1.1,fun i o ho hk=>?_⟩
 obtain⟨o',im,e⟩:=h2.2 i o ho hk;have gK:o'.ah≠0:=by rw[e]at hk;exact hk
 obtain⟨o2,oV,e2⟩:=h1.2 i o' im gK;refine⟨o2,oV,?_⟩;rw[e,e2]
theorem jZ.refl(l:List aT):jZ l l:=⟨SS _,fun i o h _=>h⟩
theorem jZ.trans{a b c:List aT}(h1:jZ a b)(h2:jZ b c):jZ a c:=
 ⟨abT h2.1 h1.1,fun i x hx hl=>h1.2 i x (h2.2 i x hx hl) hl⟩
theorem Pt.get{α:Type}{l L:List α}{f:Nat->α->α}(h:Pt l L f){i:Nat}{x:α}(hx:L[i]? =some x):∃o,l[i]? =some o/\x=f i o:=by
 have aB:i<l.length:=by have:=(Mh.1 hx).1;rw[h.1]at this;exact this
 have:=h.2 i l[i] (IE aB);rw[hx]at this;cases this;exact⟨_,IE aB,rfl⟩
theorem cL.eS{l:List Obj}{ops:List bi}{ps:List aT}{L:List Obj}{L2:List bi}{L3:List aT}{en:Bool}(h:cL l ops ps L L2 L3 en):jY l L/\jZ ps L3:=by
 obtain⟨b,hb,hP,AY⟩:=h.ex;refine⟨⟨by rw[hP.1];exact SS _,fun i o ho hk=>?_⟩,by rw[h.pr.1];exact SS _,fun i x hx hl=>?_⟩
 .obtain⟨o',im,e⟩:=hP.get ho;refine⟨o',im,?_⟩;unfold cy at e;split at e
  .rw[e]at hk;exact absurd rfl hk
  .split at e
   .rw[e]
   .rw[e]
 .obtain⟨y,hy,e⟩:=h.pr.get hx;unfold vK at e;split at e
  .rw[e]at hl;simp[eR]at hl
  .rw[e];exact hy
theorem gQ.eS{k a:Kr}(h:gQ k a):jY k.l a.l/\jZ k.ps a.ps:=by
 induction h with
 |refl=>exact⟨.refl _,.refl _⟩
 |step h ho ih=>exact⟨ih.1.trans ho.eS.1,ih.2.trans ho.eS.2⟩
theorem gl.eS{c d:Kr}(h:gl c d):jY c.l d.l/\jZ c.ps d.ps:=by
 obtain⟨n1,n2,n3,P,h1,h2,hP,h3,rfl⟩:=h.ex;refine⟨⟨by simp[Z4];omega,fun i o ho _=>?_⟩,by simp[Z4];have:=hP.1;omega,fun i x hx hl=>?_⟩
 .have ho:(c.l.take n1)[i]? =some o:=ho;rw[abm]at ho;split at ho
  .exact⟨o,ho,rfl⟩
  .cases ho
 .have hx:(P.take n3)[i]? =some x:=hx;rw[abm]at hx;split at hx
  .obtain⟨y,hy,e⟩:=hP.get hx;unfold ru at e;split at e
   .rw[e]at hl;simp[eR]at hl
   .rw[e];exact hy
  .cases hx
theorem gl.one{c d:Kr}(h:gl c d)(hc:c.ps≠[]):1<=d.ps.length:=by obtain⟨n1,n2,n3,P,h1,h2,hP,h3,rfl⟩:=h.ex;have hl:0<c.ps.length:=ac5.2 hc;have:=h3.t.mn;rw[hP.1]at this;have h4:=h3.t.le;show 1<=(P.take n3).length;rw[Z4];omega
theorem fO.ah{l:List Obj}{ops:List bi}{ps:List aT}{b:Mk}(h:fO l ops ps b){i:Nat}(hi:dx b.O i):∃o,l[i]? =some o/\o.ah≠0:=by refine(h.kR (fun i=>∃o,l[i]? =some o/\o.ah≠0) (fun c=>c<ops.length) ⟨fun i o _ _ z n _ hv=>hv.2,fun i o _ _ z c _ hv=>hv.2,fun c o _ _ n hv=>hv.2⟩ ⟨fun n hv=>hv.2,fun p pr _ _ s _ _ c hv=>hv.2⟩).1 i hi
theorem gl.kr{c d:Kr}(h:gl c d)(k:dF c.l c.ops c.ps):dF d.l d.ops d.ps:=by
 have h1:=h.one k.ne;obtain⟨n1,n2,n3,P,t1,t2,hP,t3,rfl⟩:=h.ex;refine⟨fun o ho=>k.sm o (abC ho),?_,?_,?_,fun p hp=>?_,fun e=>?_⟩
 .show(c.l.take n1).length<=_;rw[Z4];have:=k.ll;omega
 .show(c.ops.take n2).length<=_;rw[Z4];have:=k.lo;omega
 .show(P.take n3).length<=_;rw[Z4,hP.1];have:=k.lp;omega
 .refine hP.all (Q:=fun p=>p.aJ.length<=10) (fun t o ho=>?_) p (abC hp)
  unfold ru;split
  .simp[eR]
  .exact k.sl o (Rq ho)
 .have h1:1<=(P.take n3).length:=h1;have e:P.take n3=[]:=e;rw[e]at h1;simp at h1
theorem B2.Sw{α:Type}{q:Nat->α->Bool}{mn n n':Nat}{L:List α}(h:iG q mn L n)(h':iG q mn (L.take n) n'):n'=(L.take n).length:=by
 have hn:=h.t.le;have e:(L.take n).length=n:=gF hn;have NV:=h'.t.le;have RM:=h'.t.mn;rw[e]at NV RM⊢;rcases ZX n' n with aB|ew
 .exfalso;rcases h.e with h1|⟨o,ho,hq⟩
  .omega
  .have h2:(L.take n)[n-1]? =some o:=by rw[ab1 om];exact ho
   have:=h'.t.dr (n-1) o om h2;rw[hq]at this;cases this
 .omega
theorem B3{L:List Obj}{ps:List aT}(h:false=g9 L ps ps.length){t:Nat}{x:aT}(hx:ps[t]? =some x):jp L t x=false:=by
 cases he:jp L t x with
 |false=>rfl
 |true=>
  have:g9 L ps ps.length=true:=by
   unfold g9;rw[abt];exact⟨t,by simpa using(Mh.1 hx).1,by rw[hx];exact he⟩
  rw[this]at h;cases h
theorem Pt.id{α:Type}{l L:List α}{f:Nat->α->α}(h:Pt l L f)(hf:∀(t:Nat)o,l[t]? =some o->f t o=o):L=l:=by
 apply abF;intro t;cases ht:l[t]? with
 |some o=>rw[h.2 t o ht,hf t o ht]
 |none=>
  have:l.length<=t:=by simpa using ht
  simp[h.1,this]
theorem Em{p:Int}{o:Obj}(h:cH p o=true):o.ah≠0:=by intro h0;simp[cH,h0]at h
structure Left(c:Kr)(b:Mk):Prop where
 ok:fO c.l c.ops c.ps b
 all:∀(i:Nat)o,c.l[i]? =some o->o.ah≠0->dx b.O i
 ops:∀(i:Nat)o,c.ops[i]? =some o->¬dx b.P i->o=⟨-1,0⟩
 prs:∀(t:Nat)x,c.ps[t]? =some x->jp c.l t x=false
theorem cL.left{a c:Kr}(h:cL a.l a.ops a.ps c.l c.ops c.ps false):∃b,Left c b:=by
 obtain⟨b,hb,hP,AY⟩:=h.ex;have mJ:c.ps=a.ps:=h.pr.id fun t o ho=>by have:=B3 h.en ho;simp[vK,this]
 have hlen:=hP.1;have tx:=AY.1;have GA:∀(i:Nat)o',a.l[i]? =some o'->dx b.O i->∃o,c.l[i]? =some o/\o.ah=o'.ah/\o.ak=o'.ak/\o.aj=o'.aj:=fun i o' im hi=>by
  refine⟨_,hP.2 i o' im,?_⟩;have hd:dB b a.l i=false:=by unfold dB;rw[im];have:b.O[i]? =some true:=hi;simp[this]
  unfold cy;rw[hd];simp only[Bool.false_and,abV,if_false];split<;>exact⟨rfl,rfl,rfl⟩
 have Q0:∀(i:Nat)o,c.l[i]? =some o->o.ah≠0->dx b.O i/\∃o',a.l[i]? =some o'/\o.ah=o'.ah/\o.ak=o'.ak/\o.aj=o'.aj:=fun i o ho hk=>by
  obtain⟨o',im,e⟩:=hP.get ho;have Qv:i<a.l.length:=(Mh.1 im).1;unfold cy at e;split at e
  .rw[e]at hk;exact absurd rfl hk
  .rename_i qz;have hko:o.ah=o'.ah:=by split at e<;>rw[e]
   refine⟨?_,o',im,hko,by split at e<;>rw[e],by split at e<;>rw[e]⟩
   have hd:dB b a.l i=false:=by
    cases Om:dB b a.l i with
    |false=>rfl
    |true=>exact absurd (by rw[Om];simpa using Qv) qz
   unfold dB at hd;rw[im]at hd;have gK:(o'.ah !=0)=true:=by rw[<-hko];simpa using hk
   simp only[gK,ada]at hd;simpa[dx]using hd
 have UY:∀z n,vO c.l z n->dx b.O n/\vO a.l z n:=fun z n hv=>by
  obtain⟨hz,o,ho,hk⟩:=hv;obtain⟨h1,o',im,gK,_⟩:=Q0 n o ho hk;exact⟨h1,hz,o',im,by rw[<-gK];exact hk⟩
 have Zz:∀z n,vO a.l z n->dx b.O n->vO c.l z n:=fun z n hv hn=>by
  obtain⟨hz,o',im,hk⟩:=hv;obtain⟨o,ho,gK,_⟩:=GA n o' im hn;exact⟨hz,o,ho,by rw[gK];exact hk⟩
 have XX:∀z n,vP c.ops z n↔vP a.ops z n:=fun z n=>by unfold vP;rw[tx]
 have ad6:∀(i:Nat)o,c.ops[i]? =some o->dx b.P i->a.ops[i]? =some o:=fun i o ho hi=>by obtain⟨o',im,e⟩:=AY.get ho;have:b.P[i]? =some true:=hi;rw[e];simpa[zL,this]using im
 refine⟨b,⟨⟨by rw[hlen];exact hb.len.1,by rw[tx];exact hb.len.2⟩,⟨fun n hv=>(UY 0 n hv).1,fun p pr hp hl s hs hh cc hv=>?_⟩,⟨fun i o hi ho z n hz hv=>(UY z n hv).1,fun i o hi ho z cc hz hv=>?_,fun cc o hc ho n hv=>(UY _ n hv).1⟩,fun RO RP fU hr=>?_⟩,fun i o ho hk=>(Q0 i o ho hk).1,fun i o ho hn=>?_,fun t x hx=>?_⟩
 .rw[mJ]at hp;exact hb.oe.2 p pr hp hl s hs hh cc ((XX _ _).1 hv)
 .obtain⟨o',im,e⟩:=hP.get ho;obtain⟨o2,oV,_,_,hq⟩:=GA i o' im hi;rw[ho]at oV;cases oV;obtain⟨q,Gx,N5,ZA⟩:=hz;exact hb.cl.q i o' hi im z cc ⟨q,by rw[<-hq];exact Gx,N5,ZA⟩ ((XX _ _).1 hv)
 ·
  have gL:=hb.kR (fun i=>RO i/\dx b.O i) (fun cc=>RP cc/\dx b.P cc) ⟨fun i o' hi im z n hz hv=>?_,fun i o' hi im z cc hz hv=>?_,fun cc o' hc im n hv=>?_⟩ ⟨fun n hv=>?_,fun p pr hp hl s hs hh cc hv=>?_⟩
  .exact⟨fun i hi=>(gL.1 i hi).1,fun i hi=>(gL.2 i hi).1⟩
  .have hn:=hb.cl.e i o' hi.2 im z n hz hv;obtain⟨o,ho,_,he,_⟩:=GA i o' im hi.2;obtain⟨nm,hm⟩:=hz;exact⟨fU.e i o hi.1 ho z n ⟨nm,by rw[he];exact hm⟩ (Zz z n hv hn),hn⟩
  .have hn:=hb.cl.q i o' hi.2 im z cc hz hv;obtain⟨o,ho,_,_,hq⟩:=GA i o' im hi.2;obtain⟨q,Gx,N5,ZA⟩:=hz;exact⟨fU.q i o hi.1 ho z cc ⟨q,by rw[hq];exact Gx,N5,ZA⟩ ((XX _ _).2 hv),hn⟩
  .have hn:=hb.cl.p cc o' hc.2 im n hv;have hco:c.ops[cc]? =some o':=by have:=AY.2 cc o' im;have LK:b.P[cc]? =some true:=hc.2;simpa[zL,LK]using this
   exact⟨fU.p cc o' hc.1 hco n (Zz _ n hv hn),hn⟩
  .have hn:=hb.oe.1 n hv;exact⟨hr.1 n (Zz 0 n hv hn),hn⟩
  .exact⟨hr.2 p pr (by rw[mJ];exact hp) hl s hs hh cc ((XX _ _).2 hv),hb.oe.2 p pr hp hl s hs hh cc hv⟩
 .obtain⟨o',im,e⟩:=AY.get ho;have aB:i<a.ops.length:=(Mh.1 im).1;have hn:(b.P[i]? ==some true)=false:=by simpa[dx]using hn
  rw[e];simp[zL,hn,aB]
 .rw[mJ]at hx;exact B3 h.en hx
theorem gl.V0{c d:Kr}{b bd:Mk}(hl:Left c b)(hf:gl c d)(hd:fO d.l d.ops d.ps bd):(∀(i:Nat)o,d.l[i]? =some o->o.ah≠0->dx bd.O i)/\(∀(i:Nat)o,d.ops[i]? =some o->¬dx bd.P i->o=⟨-1,0⟩):=by
 obtain⟨n1,n2,n3,P,t1,t2,hP,t3,rfl⟩:=hf.ex;have hd:fO (c.l.take n1) (c.ops.take n2) (P.take n3) bd:=hd;have h1:∀(i:Nat)o,c.l[i]? =some o->o.ah≠0->(c.l.take n1)[i]? =some o:=fun i o ho hk=>by
  rcases ZX i n1 with h|h
  .rw[ab1 h];exact ho
  .have:=t1.t.dr i o h ho;simp[qO]at this;exact absurd this hk
 have ZB:∀z n,vO c.l z n->vO (c.l.take n1) z n:=fun z n⟨hz,o,ho,hk⟩=>⟨hz,o,h1 n o ho hk,hk⟩
 have gL:=hl.ok.kR (fun i=>dx bd.O i) (fun cc=>dx bd.P cc\/n2<=cc) ⟨fun i o hi ho z n hz hv=>?_,fun i o hi ho z cc hz hv=>?_,fun cc o hc ho n hv=>?_⟩ ⟨fun n hv=>?_,fun p pr hp cX s hs hh cc hv=>?_⟩
 .refine⟨fun i o ho hk=>?_,fun i o ho hn=>?_⟩
  .have ho:(c.l.take n1)[i]? =some o:=ho;rw[abm]at ho;split at ho
   .exact gL.1 i (hl.all i o ho hk)
   .cases ho
  .have ho:(c.ops.take n2)[i]? =some o:=ho;rw[abm]at ho;split at ho
   .rename_i aB;refine hl.ops i o ho fun hb=>?_
    rcases gL.2 i hb with h|h
    .exact hn h
    .omega
   .cases ho
 .obtain⟨o',im,hk⟩:=hd.ah hi;have:(c.l.take n1)[i]? =some o:=by
   rw[abm]at im⊢;split at im
   .rename_i aB;rw[if_pos aB];exact ho
   .cases im
  exact hd.cl.e i o hi this z n hz (ZB z n hv)
 .obtain⟨o',im,hk⟩:=hd.ah hi;have:(c.l.take n1)[i]? =some o:=by
   rw[abm]at im⊢;split at im
   .rename_i aB;rw[if_pos aB];exact ho
   .cases im
  rcases ZX cc n2 with h|h
  .exact .inl (hd.cl.q i o hi this z cc hz ⟨hv.1,by have:=hv.2;rw[Z4];omega⟩)
  .exact .inr h
 .rcases hc with hc|hc
  .have aB:cc<n2:=by have h2:=(Mh.1 hc).1;rw[hd.len.2,Z4]at h2;omega
   exact hd.cl.p cc o hc (by rw[ab1 aB];exact ho) n (ZB _ n hv)
  .have:=t2.t.dr cc o hc ho;simp[qP]at this;have:=hv.1;omega
 .exact hd.oe.1 n (ZB 0 n hv)
 .rcases ZX cc n2 with h|h
  .refine .inl (hd.oe.2 p pr ?_ cX s hs hh cc ⟨hv.1,by have:=hv.2;rw[Z4];omega⟩)
   have hnz:ru (c.l.take n1) c.ps.length p pr=pr:=by unfold ru qZ;simp[cX]
   have Ir:=hP.2 p pr hp;rw[hnz]at Ir;rcases ZX p n3 with h3|h3
   .rw[ab1 h3];exact Ir
   .have:=t3.t.dr p pr h3 Ir;simp[qR,cX]at this
  .exact .inr h
theorem gl.LL{c d:Kr}{b:Mk}(hl:Left c b)(hf:gl c d){L:List Obj}{L2:List bi}{L3:List aT}{en:Bool}(h:cL d.l d.ops d.ps L L2 L3 en):L=d.l/\L2=d.ops/\L3=d.ps/\en=false:=by
 obtain⟨bd,OT,ZC,AY⟩:=h.ex;obtain⟨m1,m2⟩:=hf.V0 hl OT;have mE:∀i,dB bd d.l i=false:=fun i=>by
  unfold dB;cases hi:d.l[i]? with
  |none=>rfl
  |some o=>
   by_cases hk:o.ah=0
   .simp[hk]
   .have:bd.O[i]? =some true:=m1 i o hi hk;simp[this]
 have Ox:∀(t:Nat)x,d.ps[t]? =some x->jp d.l t x=false:=fun t x hx=>by
  obtain⟨n1,n2,n3,P,t1,t2,hP,t3,rfl⟩:=hf.ex;have hx:(P.take n3)[t]? =some x:=hx;rw[abm]at hx;split at hx
  .obtain⟨y,hy,e⟩:=hP.get hx;cases cX:x.aQ with
   |false=>simp[jp,cX]
   |true=>
    have KO:x=y:=by
     unfold ru at e;split at e
     .rw[e]at cX;simp[eR]at cX
     .exact e
    subst KO;have he:=hl.prs t x hy;cases h0:jp (c.l.take n1) t x with
    |false=>rfl
    |true=>
     unfold jp at he h0;simp[cX]at he h0;obtain⟨o,ho,hh⟩:=he h0.1;obtain⟨i,hi⟩:=Xf ho;have hk:=Em hh;have kL:o∈c.l.take n1:=by
      rcases ZX i n1 with h|h
      .exact Rq (by rw[ab1 h];exact hi)
      .have:=t1.t.dr i o h hi;simp[qO]at this;exact absurd this hk
     have:=h0.2 o kL;rw[hh]at this;cases this
  .cases hx
 have hL:L=d.l:=ZC.id fun t o _=>by
  unfold cy;rw[mE t];have:jK bd d.l d.l.length o.aD=false:=by unfold jK;rw[mE];simp
  rw[this];simp
 have nD:=h.pr;have mX:=h.en;rw[hL]at nD mX;refine⟨hL,AY.id fun t o ho=>?_,nD.id fun t o ho=>?_,?_⟩
 .unfold zL;split
  .rename_i hh;have hn:¬dx bd.P t:=by intro LK;have LK:bd.P[t]? =some true:=LK;simp[LK]at hh
   exact(m2 t o ho hn).symm
  .rfl
 .simp[vK,Ox t o ho]
 .rw[mX];cases he:g9 d.l d.ps d.ps.length with
  |false=>rfl
  |true=>
   unfold g9 at he;rw[abt]at he;obtain⟨t,ht,zN⟩:=he;have J2:t<d.ps.length:=by simpa using ht
   rw[IE J2]at zN;have zN:jp d.l t d.ps[t]=true:=zN;rw[Ox t _ (IE J2)]at zN;cases zN
theorem gl.LM{c d a2 c2 d2:Kr}{b:Mk}(hl:Left c b)(hf:gl c d)(h1:gQ d a2)(h2:cL a2.l a2.ops a2.ps c2.l c2.ops c2.ps false)(h3:gl c2 d2):d2=d:=by
 have ha:a2=d:=by
  clear h2 h3
  induction h1 with
  |refl=>rfl
  |step h ho ih=>
   subst ih;exact absurd (hf.LL hl ho).2.2.2 aG
 subst ha;obtain⟨e1,e2,e3,_⟩:=hf.LL hl h2;obtain⟨n1,n2,n3,P,t1,t2,hP,t3,he⟩:=hf.ex;obtain⟨m1,m2,m3,P',s1,s2,Uc,s3,rfl⟩:=h3.ex;rw[e1]at s1 Uc s3⊢;rw[e2]at s2⊢;rw[e3]at Uc;obtain⟨dl,t8,dps⟩:=a2;cases he;have k1:=B2.Sw t1 s1;have k2:=B2.Sw t2 s2;have q1:(c.l.take n1).take m1=c.l.take n1:=by rw[k1,abp]
 have q2:(c.ops.take n2).take m2=c.ops.take n2:=by rw[k2,abp]
 have hid:P'=P.take n3:=by
  have Uc:Pt (P.take n3) P' (ru ((c.l.take n1).take m1) (P.take n3).length):=Uc;rw[q1]at Uc;refine Uc.id fun t x hx=>?_
  rw[abm]at hx;split at hx
  .obtain⟨y,hy,e⟩:=hP.get hx;have hyl:t<c.ps.length:=(Mh.1 hy).1;by_cases hq:qZ (c.l.take n1) t y=true
   .have:x=eR:=by rw[e];simp[ru,hq,hyl]
    subst this;unfold ru;split<;>rfl
   .have KO:x=y:=by rw[e];simp[ru,hq]
    subst KO;simp[ru,hq]
  .cases hx
 subst hid;have s3:iG (qR ((c.l.take n1).take m1)) 1 (P.take n3) m3:=s3;rw[q1]at s3;have k3:=B2.Sw t3 s3;show Kr.mk ((c.l.take n1).take m1) ((c.ops.take n2).take m2) ((P.take n3).take m3)=Kr.mk (c.l.take n1) (c.ops.take n2) (P.take n3);rw[q1,q2,k3,abp]
namespace Kn
structure Is(k d:Kr):Prop where
 ex:∃a c,gQ k a/\cL a.l a.ops a.ps c.l c.ops c.ps false/\gl c d
theorem iY{α:Type}{l L:List α}{f:Nat->α->α}(h:Pt l L f):L=l.mapIdx f:=by
 refine abF fun i=>?_
 rw[abD];cases hx:l[i]? with
 |none=>exact ab0.2 (by rw[h.1];exact ab0.1 hx)
 |some x=>rw[h.2 i x hx];rfl
theorem zO{α:Type}(l:List α)(f:Nat->α->α):Pt l (l.mapIdx f) f:=
 ⟨abQ,fun t o ho=>by rw[abD,ho];rfl⟩
theorem LN{A B:List Bool}(hl:A.length=B.length)(h:∀i,dx A i↔dx B i):A=B:=by
 refine List.ext_getElem hl fun i h1 h2=>?_
 have OG:=h i;unfold dx at OG;rw[IE h1,IE h2]at OG;simp only[aag]at OG;cases ha:A[i]<;>cases hb:B[i]<;>simp[ha,hb]at OG⊢
theorem It{l:List Obj}{ops:List bi}{ps:List aT}{b b':Mk}(h:fO l ops ps b)(h':fO l ops ps b'):b=b':=by
 have h1:=h.kR _ _ h'.cl h'.oe;have h2:=h'.kR _ _ h.cl h.oe;obtain⟨O,P⟩:=b;obtain⟨O',P'⟩:=b';have e1:O=O':=LN (h.len.1.trans h'.len.1.symm) fun i=>⟨h1.1 i,h2.1 i⟩
 have e2:P=P':=LN (h.len.2.trans h'.len.2.symm) fun i=>⟨h1.2 i,h2.2 i⟩
 rw[e1,e2]
theorem sC{k c c':Kr}{e e':Bool}(h:cL k.l k.ops k.ps c.l c.ops c.ps e)(h':cL k.l k.ops k.ps c'.l c'.ops c'.ps e'):c=c'/\e=e':=by
 obtain⟨b,hb,h1,h2⟩:=h.ex;obtain⟨b',r9,OG,QO⟩:=h'.ex;have:=It hb r9;subst this;have e1:c.l=c'.l:=(iY h1).trans (iY OG).symm;have e2:c.ops=c'.ops:=(iY h2).trans (iY QO).symm;have p:=h.pr;rw[e1]at p;have e3:c.ps=c'.ps:=(iY p).trans (iY h'.pr).symm;refine⟨?_,?_⟩
 .obtain⟨x,y,z⟩:=c;obtain⟨x',y',z'⟩:=c';simp only at e1 e2 e3;rw[e1,e2,e3]
 .rw[h.en,h'.en,e1]
theorem zP{k a:Kr}(h:gQ k a):a=k\/∃x,cL k.l k.ops k.ps x.l x.ops x.ps true/\gQ x a:=by
 induction h with
 |refl=>exact .inl rfl
 | @step a b h s ih=>
  rcases ih with rfl|⟨x,hx,OU⟩
  .exact .inr ⟨b,s,.refl⟩
  .exact .inr ⟨x,hx,.step OU s⟩
theorem OV{k a b:Kr}(h1:gQ k a)(h2:gQ k b):gQ a b\/gQ b a:=by
 induction h2 with
 |refl=>exact .inr h1
 | @step b c h s ih=>
  rcases ih with h|h
  .exact .inl (.step h s)
  .rcases zP h with rfl|⟨x,hx,OU⟩
   .exact .inl (.step .refl s)
   .have:=(sC hx s).1;subst this;exact .inr OU
theorem OW{k a b c d:Kr}(h1:gQ k a)(h2:gQ k b)(o1:cL a.l a.ops a.ps c.l c.ops c.ps false)(o2:cL b.l b.ops b.ps d.l d.ops d.ps false):a=b:=by
 have key:∀{a b c:Kr},gQ a b->cL a.l a.ops a.ps c.l c.ops c.ps false->b=a:=fun h o=>by
  rcases zP h with h|⟨x,hx,_⟩
  .exact h
  .have:=(sC hx o).2;cases this
 rcases OV h1 h2 with h|h
 .exact(key h o1).symm
 .exact key h o2
theorem vR{α:Type}{q:Nat->α->Bool}{mn:Nat}{L:List α}{a b:Nat}(ha:iG q mn L a)(hb:iG q mn L b):a=b:=by
 have key:∀{a b:Nat},iG q mn L a->iG q mn L b->¬a<b:=fun{a b}ha hb aB=>by
  have h1:=ha.t.mn;have h2:=hb.t.le;rcases hb.e with h3|⟨o,ho,hq⟩
  .omega
  .have:=ha.t.dr (b-1) o om ho;rw[hq]at this;cases this
 have h1:=key ha hb;have h2:=key hb ha;omega
theorem LP{c d d':Kr}(h:gl c d)(h':gl c d'):d=d':=by obtain⟨n1,n2,n3,P,a1,a2,a3,a4,rfl⟩:=h.ex;obtain⟨m1,m2,m3,P',b1,b2,b3,b4,rfl⟩:=h'.ex;have:=vR a1 b1;subst this;have:=vR a2 b2;subst this;have:=(iY a3).trans (iY b3).symm;subst this;have:=vR a4 b4;subst this;rfl
theorem Is.zo{k d d':Kr}(h:Is k d)(h':Is k d'):d=d':=by obtain⟨a,c,h1,h2,h3⟩:=h.ex;obtain⟨a',c',OG,QO,h3'⟩:=h'.ex;have:=OW h1 OG h2 QO;subst this;have:=(sC h2 QO).1;subst this;exact LP h3 h3'
def ZD(l:List Obj)(i:Nat):Bool:=match l[i]? with|some o=>o.ah !=0|none=>false
def ZE(l:List Obj)(O:List Bool)(i:Nat):Bool:=(l.zip O).any fun y=>y.2&&y.1.ak.any fun e=>(nq e).2==(i:Int)
def ZF(ops:List bi)(P:List Bool)(i:Nat):Bool:=(ops.zip P).any fun y=>y.2&&y.1.bD==(i:Int)
def ZG(l:List Obj)(O:List Bool)(c:Nat):Bool:=(l.zip O).any fun y=>y.2&&y.1.aj.any fun q=>q.has&&q.dk==(c:Int)
def Dc(l:List Obj)(ops:List bi)(b:Mk):Mk:=
 ⟨b.O.mapIdx fun i x=>x||(ZD l i&&(ZE l b.O i||ZF ops b.P i)),b.P.mapIdx fun c x=>x||ZG l b.O c⟩
def Iu(l:List Obj)(ops:List bi)(ps:List aT):Mk:=
 ⟨l.mapIdx fun i o=>decide (i=0)&&o.ah !=0,ops.mapIdx fun c _=>ps.any fun p=>p.aQ&&p.aJ.any fun s=>s.has&&s.dk==(c:Int)⟩
def Sx{α:Type}(f:α->α):Nat->α->α
 |0,a=>a
 |n+1,a=>Sx f n (f a)
def og(l:List Obj)(ops:List bi)(ps:List aT):Mk:=Sx (Dc l ops) (l.length+ops.length) (Iu l ops ps)
theorem sD:∀(a b:List Bool),b.length=a.length->(∀i,dx a i->dx b i)->a≠b->d6 b<d6 a
 | [],[],_,_,h=>absurd rfl h
 | [],_::_,h,_,_=>by simp at h
 |_::_,[],h,_,_=>by simp at h
 |x::a,y::b,h,hm,fc=>by
  have hl:b.length=a.length:=by simpa using h
  have RM:∀i,dx a i->dx b i:=fun i hi=>by have:=hm (i+1);unfold dx at this hi⊢;simp only[abY]at this;exact this hi
  have h0:x=true->y=true:=fun hx=>by have:=hm 0;unfold dx at this;simp only[acs,aag]at this;exact this hx
  have hle:=kz a b hl RM;by_cases Dd:a=b
  .subst Dd;cases x<;>cases y
   .exact absurd rfl fc
   .simp[d6]
   .exact absurd (h0 rfl) aG
   .exact absurd rfl fc
  .have ih:=sD a b hl RM Dd;cases x<;>cases y
   .simp only[d6]at ih⊢;simpa using ih
   .simp only[d6]at ih⊢;simp;omega
   .exact absurd (h0 rfl) aG
   .simp only[d6]at ih⊢;simpa using ih
theorem vS:∀a:List Bool,d6 a<=a.length:=fun a=>by unfold d6;exact ack _ _
theorem sF{A:List Bool}{f:Nat->Bool->Bool}{i:Nat}:dx (A.mapIdx f) i↔∃x,A[i]? =some x/\f i x=true:=by
 unfold dx;rw[abD];cases A[i]? <;>simp
theorem sG{l:List Obj}{ops:List bi}(b:Mk):(∀i,dx b.O i->dx (Dc l ops b).O i)/\∀c,dx b.P c->dx (Dc l ops b).P c:=
 ⟨fun i h=>sF.2 ⟨true,h,aG⟩,fun c h=>sF.2 ⟨true,h,aG⟩⟩
theorem mY{l:List Obj}{ops:List bi}(b:Mk):(Dc l ops b).O.length=b.O.length/\(Dc l ops b).P.length=b.P.length:=
 ⟨abQ,abQ⟩
theorem LQ{l:List Obj}{ops:List bi}(b:Mk):Dc l ops b=b\/(Dc l ops b).mu<b.mu:=by
 have h1:=kz b.O _ (mY b).1 (sG (l:=l) (ops:=ops) b).1;have h2:=kz b.P _ (mY b).2 (sG (l:=l) (ops:=ops) b).2;by_cases e1:b.O=(Dc l ops b).O
 .by_cases e2:b.P=(Dc l ops b).P
  .refine .inl ?_;cases hb:b with
   |mk O P=>
    rw[hb]at e1 e2;generalize hm:Dc l ops ⟨O,P⟩=m at e1 e2;cases m;simp only at e1 e2;rw[e1,e2]
  .have:=sD b.P _ (mY b).2 (sG (l:=l) (ops:=ops) b).2 e2;unfold Mk.mu;omega
 .have:=sD b.O _ (mY b).1 (sG (l:=l) (ops:=ops) b).1 e1;unfold Mk.mu;omega
theorem GB{l:List Obj}{ops:List bi}:∀(n:Nat)(b:Mk),b.mu<=n->Dc l ops (Sx (Dc l ops) n b)=Sx (Dc l ops) n b
 |0,b,h=>by
  rcases LQ (l:=l) (ops:=ops) b with h1|h1
  .exact h1
  .omega
 |n+1,b,h=>by
  rcases LQ (l:=l) (ops:=ops) b with h1|h1
  .have:∀n,Sx (Dc l ops) n b=b:=fun n=>by
    induction n with
    |zero=>rfl
    |succ n ih=>show Sx _ n (Dc l ops b)=b;rw[h1,ih]
   rw[this,h1]
  .exact GB n _ om
theorem uH{α:Type}{f:α->α}{Q:α->Prop}(hf:∀a,Q a->Q (f a)):∀(n:Nat)(a:α),Q a->Q (Sx f n a)
 |0,_,h=>h
 |n+1,a,h=>uH hf n (f a) (hf a h)
theorem zQ{α:Type}{l:List α}{O:List Bool}{g:α->Bool}:(l.zip O).any (fun y=>y.2&&g y.1)=true↔∃(i:Nat)(o:α),l[i]? =some o/\dx O i/\g o=true:=by
 rw[abt];constructor
 .rintro⟨⟨o,x⟩,hm,h⟩;obtain⟨i,hi⟩:=Xf hm;rw[List.getElem?_zip_eq_some]at hi;simp only[ZM]at h;exact⟨i,o,hi.1,by unfold dx;rw[hi.2,h.1],h.2⟩
 .rintro⟨i,o,h1,h2,h3⟩;refine⟨(o,true),Rq (i:=i) (List.getElem?_zip_eq_some.2 ⟨h1,h2⟩),by simp[h3]⟩
theorem GC{l:List Obj}{O:List Bool}{n:Nat}:ZE l O n=true↔∃(i:Nat)(o:Obj),l[i]? =some o/\dx O i/\(o.ak.any fun e=>(nq e).2==(n:Int))=true:=zQ (g:=fun o:Obj=>o.ak.any fun e=>(nq e).2==(n:Int))
theorem GD{ops:List bi}{P:List Bool}{n:Nat}:ZF ops P n=true↔∃(i:Nat)(o:bi),ops[i]? =some o/\dx P i/\(o.bD==(n:Int))=true:=zQ (g:=fun o:bi=>o.bD==(n:Int))
theorem GF{l:List Obj}{O:List Bool}{n:Nat}:ZG l O n=true↔∃(i:Nat)(o:Obj),l[i]? =some o/\dx O i/\(o.aj.any fun q=>q.has&&q.dk==(n:Int))=true:=zQ (g:=fun o:Obj=>o.aj.any fun q=>q.has&&q.dk==(n:Int))
theorem GG{l:List Obj}{i:Nat}:ZD l i=true↔∃o,l[i]? =some o/\o.ah≠0:=by
 unfold ZD;cases l[i]? <;>simp
theorem En{l:List Obj}{ops:List bi}{ps:List aT}(ht:∀o,o∈l->o.JZ){RO RP:Nat->Prop}(hc:Cl l ops RO RP)(hr:vH l ops ps RO RP):Lv RO RP (og l ops ps):=by
 refine(uH (Q:=fun b=>Lv RO RP b/\b.P.length=ops.length) (fun b⟨h,R7⟩=>⟨⟨fun i hi=>?_,fun c hi=>?_⟩,(mY b).2.trans R7⟩) _ _ ⟨⟨fun i hi=>?_,fun c hi=>?_⟩,abQ⟩).1
 .obtain⟨x,h1,h2⟩:=sF.1 hi;cases x with
  |true=>exact h.1 i h1
  |false=>
   rw[ab2,ZM,abZ]at h2;have hn:=GG.1 h2.1;rcases h2.2 with h2|h2
   .obtain⟨j,o,hj,ho,hg⟩:=GC.1 h2;obtain⟨e,he,hei⟩:=abt.1 hg;obtain⟨es,nV⟩:=(ht o (Rq hj)).2.1;rw[nV]at he;obtain⟨⟨nm,z⟩,hx,rfl⟩:=aaQ.1 he;have hz:z=(i:Int):=by simpa[eG,nq]using hei
    refine hc.e j o (h.1 j ho) hj z i ⟨nm,?_⟩ ⟨hz,hn⟩;rw[nV];exact aaQ.2 ⟨_,hx,rfl⟩
   .obtain⟨c,o,hj,ho,hg⟩:=GD.1 h2;exact hc.p c o (h.2 c ho) hj i ⟨by simpa using hg,hn⟩
 .obtain⟨x,h1,h2⟩:=sF.1 hi;cases x with
  |true=>exact h.2 c h1
  |false=>
   rw[ab2]at h2;obtain⟨j,o,hj,ho,hg⟩:=GF.1 h2;obtain⟨q,hq,xn⟩:=abt.1 hg;rw[ZM]at xn;exact hc.q j o (h.1 j ho) hj q.dk c ⟨q,hq,xn.1,rfl⟩ ⟨by simpa using xn.2,R7▸(Mh.1 h1).1⟩
 .unfold dx Iu at hi;simp only[abD]at hi;cases ho:l[i]? with
  |none=>rw[ho]at hi;cases hi
  |some o=>
   rw[ho]at hi;simp only[aaG,aag,ZM,decide_eq_true_eq]at hi;obtain⟨rfl,hk⟩:=hi;exact hr.1 0 ⟨rfl,o,ho,by simpa using hk⟩
 .unfold dx Iu at hi;simp only[abD]at hi;cases ho:ops[c]? with
  |none=>rw[ho]at hi;cases hi
  |some o=>
   rw[ho]at hi;simp only[aaG,aag]at hi;obtain⟨pr,hp,hi⟩:=abt.1 hi;rw[ZM]at hi;obtain⟨s,hs,eC⟩:=abt.1 hi.2;rw[ZM]at eC;obtain⟨p,hp⟩:=Xf hp;exact hr.2 p pr hp hi.1 s hs eC.1 c ⟨by simpa using eC.2,(Mh.1 ho).1⟩
theorem OX(l:List Obj)(ops:List bi)(ps:List aT)(ht:∀o,o∈l->o.JZ):fO l ops ps (og l ops ps):=by
 have hl:xu l ops (og l ops ps):=uH (Q:=xu l ops) (fun b h=>⟨(mY b).1.trans h.1,(mY b).2.trans h.2⟩) _ _ ⟨abQ,abQ⟩
 have Sy:Dc l ops (og l ops ps)=og l ops ps:=by refine GB _ _ ?_;unfold Mk.mu;have h1:=vS (Iu l ops ps).O;have h2:=vS (Iu l ops ps).P;have h3:(Iu l ops ps).O.length=l.length:=abQ;have h4:(Iu l ops ps).P.length=ops.length:=abQ;omega
 have hle:= @En l ops ps ht;have pg:(∀i,dx (Iu l ops ps).O i->dx (og l ops ps).O i)/\∀c,dx (Iu l ops ps).P c->dx (og l ops ps).P c:=
  uH (Q:=fun b=>(∀i,dx (Iu l ops ps).O i->dx b.O i)/\∀c,dx (Iu l ops ps).P c->dx b.P c) (fun b h=>⟨fun i hi=>(sG b).1 i (h.1 i hi),fun c hc=>(sG b).2 c (h.2 c hc)⟩) _ _ ⟨fun _ h=>h,fun _ h=>h⟩
 generalize og l ops ps=b at hl Sy hle pg⊢;have hO:∀n:Nat,(∃o,l[n]? =some o/\o.ah≠0)->(ZE l b.O n=true\/ZF ops b.P n=true)->dx b.O n:=fun n hn hx=>by
  rw[<-Sy];have:n<b.O.length:=by obtain⟨o,ho,_⟩:=hn;rw[hl.1];exact(Mh.1 ho).1
  refine sF.2 ⟨b.O[n],IE this,?_⟩;rw[GG.2 hn];rcases hx with hx|hx<;>rw[hx]<;>simp
 have fU:Cl l ops (dx b.O) (dx b.P):=by
  refine⟨fun i o hi ho z n hs hv=>?_,fun i o hi ho z c hs hv=>?_,fun c o hc ho n hv=>?_⟩
  .obtain⟨rfl,hn⟩:=hv;obtain⟨nm,hs⟩:=hs;refine hO n hn (.inl (GC.2 ⟨i,o,ho,hi,abt.2 ⟨_,hs,?_⟩⟩));show((nq (eG (nm,(n:Int)))).2==(n:Int))=true;simp[eG,nq]
  .obtain⟨rfl,hn⟩:=hv;obtain⟨q,hq,h1,h2⟩:=hs;rw[<-Sy];refine sF.2 ⟨b.P[c]'(by rw[hl.2];exact hn),IE _,?_⟩
   have:ZG l b.O c=true:=GF.2 ⟨i,o,ho,hi,abt.2 ⟨q,hq,by simp[h1,h2]⟩⟩
   rw[this];simp
  .obtain⟨h1,hn⟩:=hv;exact hO n hn (.inr (GD.2 ⟨c,o,ho,hc,by simp[h1]⟩))
 refine⟨hl,⟨fun n hv=>pg.1 n ?_,fun p pr hp cX s hs hh c hv=>pg.2 c ?_⟩,fU,fun RO RP hc hr=>?_⟩
 .obtain⟨h0,o,ho,hk⟩:=hv;have h0:n=0:=om;subst h0;unfold Iu dx;simp only[abD,ho,aaG,aag];simp[hk]
 .obtain⟨h0,hn⟩:=hv;unfold Iu dx;simp only[abD,IE hn,aaG,aag];exact abt.2 ⟨pr,Rq hp,by rw[cX,acm];exact abt.2 ⟨s,hs,by simp[hh,h0]⟩⟩
 .exact hle hc hr
def ns(k:Kr):Kr:=
 ⟨k.l.mapIdx (cy (og k.l k.ops k.ps) k.l k.l.length),k.ops.mapIdx (zL (og k.l k.ops k.ps) k.ops.length),k.ps.mapIdx (vK (k.l.mapIdx (cy (og k.l k.ops k.ps) k.l k.l.length)) k.ps.length)⟩
theorem LR(k:Kr)(ht:∀o,o∈k.l->o.JZ):cL k.l k.ops k.ps (ns k).l (ns k).ops (ns k).ps (g9 (ns k).l k.ps k.ps.length):=
 ⟨⟨_,OX k.l k.ops k.ps ht,zO _ _,zO _ _⟩,zO _ _,rfl⟩
def B4:Nat->Kr->Kr
 |0,k=>ns k
 |n+1,k=>bif g9 (ns k).l k.ps k.ps.length then B4 n (ns k)else ns k
theorem LS:∀(n:Nat)(k:Kr),dF k.l k.ops k.ps->kT k.ps<=n->∃a,gQ k a/\cL a.l a.ops a.ps (B4 n k).l (B4 n k).ops (B4 n k).ps false
 |n,k,hk,hn=>by
  have h:=LR k fun o ho=>(hk.sm o ho).t
  cases he:g9 (ns k).l k.ps k.ps.length with
  |false=>
   rw[he]at h;refine⟨k,.refl,?_⟩;have:B4 n k=ns k:=by
    cases n with
    |zero=>rfl
    |succ n=>show(bif _ then _ else _)=_;rw[he];rfl
   rw[this];exact h
  |true=>
   rw[he]at h;have aB:=h.kT;cases n with
   |zero=>omega
   |succ n=>
    obtain⟨a,h1,h2⟩:=LS n (ns k) (h.kr hk) om;have e:B4 (n+1) k=B4 n (ns k):=by show(bif _ then _ else _)=_;rw[he];rfl
    rw[e];refine⟨a,?_,h2⟩;have:∀{x y:Kr},gQ x y->cL k.l k.ops k.ps x.l x.ops x.ps true->gQ k y:=fun h3 h4=>by
     induction h3 with
     |refl=>exact .step .refl h4
     |step _ s ih=>exact .step ih s
    exact this h1 h
def lZ{α:Type}(q:Nat->α->Bool):List α->Nat->Nat->Nat
 | [],_,b=>b
 |x::r,i,b=>lZ q r (i+1) (bif q i x then b else i+1)
def B5{α:Type}(q:Nat->α->Bool)(mn:Nat)(L:List α):Nat:=min L.length (max mn (lZ q L 0 0))
theorem zR{α:Type}(q:Nat->α->Bool):∀(L:List α)(i b:Nat),b<=i->(lZ q L i b=b/\(∀(t:Nat)o,L[t]? =some o->q (i+t) o=true))\/
  (i<lZ q L i b/\lZ q L i b<=i+L.length/\(∃o,L[lZ q L i b-1-i]? =some o/\q (lZ q L i b-1) o=false)/\∀(t:Nat)o,lZ q L i b<=i+t->L[t]? =some o->q (i+t) o=true)
 | [],i,b,h=>.inl ⟨rfl,fun t o h=>by simp at h⟩
 |x::r,i,b,h=>by
  cases hq:q i x with
  |true=>
   have e:lZ q (x::r) i b=lZ q r (i+1) b:=by show lZ q r (i+1) (bif q i x then b else i+1)=_;rw[hq];rfl
   rw[e];rcases zR q r (i+1) b om with⟨h1,h2⟩|⟨h1,h2,⟨o,h3,h4⟩,h5⟩
   .refine .inl ⟨h1,fun t o ho=>?_⟩
    cases t with
    |zero=>simp at ho;subst ho;exact hq
    |succ t=>have:=h2 t o (by simpa using ho);rwa [show i+(t+1)=i+1+t by omega]
   .refine .inr ⟨om,by simp;omega,⟨o,?_,h4⟩,fun t o ht ho=>?_⟩
    .rw[show lZ q r (i+1) b-1-i=(lZ q r (i+1) b-1-(i+1))+1 by omega];simpa using h3
    .cases t with
     |zero=>simp at ho;subst ho;exact hq
     |succ t=>have:=h5 t o om (by simpa using ho);rwa [show i+(t+1)=i+1+t by omega]
  |false=>
   have e:lZ q (x::r) i b=lZ q r (i+1) (i+1):=by show lZ q r (i+1) (bif q i x then b else i+1)=_;rw[hq];rfl
   rw[e];rcases zR q r (i+1) (i+1) (SS _)with⟨h1,h2⟩|⟨h1,h2,⟨o,h3,h4⟩,h5⟩
   .refine .inr ⟨om,by simp;omega,⟨x,by rw[h1];simp,by rw[h1];simpa using hq⟩,fun t o ht ho=>?_⟩
    cases t with
    |zero=>omega
    |succ t=>have:=h2 t o (by simpa using ho);rwa [show i+(t+1)=i+1+t by omega]
   .refine .inr ⟨om,by simp;omega,⟨o,?_,h4⟩,fun t o ht ho=>?_⟩
    .rw[show lZ q r (i+1) (i+1)-1-i=(lZ q r (i+1) (i+1)-1-(i+1))+1 by omega];simpa using h3
    .cases t with
     |zero=>omega
     |succ t=>have:=h5 t o om (by simpa using ho);rwa [show i+(t+1)=i+1+t by omega]
theorem oh{α:Type}(q:Nat->α->Bool)(mn:Nat)(L:List α):iG q mn L (B5 q mn L):=by
 unfold B5;rcases zR q L 0 0 (SS _)with⟨h1,h2⟩|⟨h1,h2,⟨o,h3,h4⟩,h5⟩
 .refine⟨⟨Nat.min_le_left _ _,om,fun t o _ ho=>by have:=h2 t o ho;rwa [abx]at this⟩,.inl om⟩
 .refine⟨⟨Nat.min_le_left _ _,om,fun t o ht ho=>?_⟩,?_⟩
  .have aB:=(Mh.1 ho).1;have:=h5 t o om ho;rwa [abx]at this
  .rcases ZX mn (lZ q L 0 0)with hm|hm
   .refine .inr ⟨o,?_⟩;have e:min L.length (max mn (lZ q L 0 0))=lZ q L 0 0:=om;rw[e];exact⟨by simpa using h3,h4⟩
   .exact .inl om
def Sz(c:Kr):Kr:=
 ⟨c.l.take (B5 qO 1 c.l),c.ops.take (B5 qP 0 c.ops),(c.ps.mapIdx (ru (c.l.take (B5 qO 1 c.l)) c.ps.length)).take (B5 (qR (c.l.take (B5 qO 1 c.l))) 1 (c.ps.mapIdx (ru (c.l.take (B5 qO 1 c.l)) c.ps.length)))⟩
theorem LU(c:Kr):gl c (Sz c):=⟨⟨_,_,_,_,oh _ _ _,oh _ _ _,zO _ _,oh _ _ _,rfl⟩⟩
def kU(k:Kr):Kr:=Sz (B4 k.ps.length k)
theorem iZ{k:Kr}(hk:dF k.l k.ops k.ps):Is k (kU k):=by
 obtain⟨a,h1,h2⟩:=LS k.ps.length k hk (by unfold kT;exact ack _ _)
 exact⟨a,_,h1,h2,LU _⟩
theorem Iv{k a c d:Kr}(hk:dF k.l k.ops k.ps)(h1:gQ k a)(h2:cL a.l a.ops a.ps c.l c.ops c.ps false)(h3:gl c d):d=kU k:=
 Is.zo ⟨a,c,h1,h2,h3⟩ (iZ hk)
theorem Iw(k:Kr)(hk:dF k.l k.ops k.ps){m:Mem}{K:CV->Mem->Prop}(h:K (cP (kU k).l (kU k).ops (kU k).ps) m):au Tryz.prog 46 [cP k.l k.ops k.ps] m K:=
 LJ k hk fun a c d h1 h2 h3=>by rw[Iv hk h1 h2 h3];exact h
end Kn
def c11:LF:= ⟨95,[.tmp 4],(.seq (.ai [qu 2 (.box 0),qu 3 (.box 1),qu 4 (.aH (qb false))]) (.seq (.seq (.ai [qf 9 0 2,ql 10 9,qf 11 0 3,ql 12 11,qu 13 (qc 22 [10,12]),qu 14 (.un .not 13),qm 15 14,qg 16 (.br 1 2) 15 false,qg 17 (.load false 1 16) 15 false,qg 18 (.len 1 17) 15 false,qg 19 (.br 1 3) 15 false,qg 20 (.load false 1 19) 15 false,qg 21 (.len 1 20) 15 false,qg 22 (.aF .neq 18 21) 15 false,qu 23 (.pick 15 (qb true) 22),qm 24 23,qg 25 (.br 2 2) 24 false,qg 26 (.load false 1 25) 24 false,qg 27 (.len 1 26) 24 false,qg 28 (.br 2 3) 24 false,qg 29 (.load false 1 28) 24 false,qg 30 (.len 1 29) 24 false,qg 31 (.aF .neq 27 30) 24 false,qu 32 (.pick 24 (qb true) 31)]) (.cond 32 (.seq (.ai [qu 4 (.aH (qb false))]) .ret) .skip)) (.seq (.seq (.ai [qf 33 1 2,ql 34 33,qu 35 (.len 1 34),qu 36 (.aH (qi 0))]) (.block 0 (.loop (.seq (.ai [qu 37 (.aF .lss 36 35)]) (.seq (.cond 37 .skip (.exit 0)) (.seq (.block 1 (.seq (.ai [qm 38 36,qm 5 38]) (.seq (.bX [qf 39 1 2,ql 40 39,qm 41 5,qu 42 (.bW 2 40 41),qL 43 2 42,qf 44 1 3,ql 45 44,qm 46 5,qu 47 (.bW 2 45 46),qL 48 2 47,qu 49 (.Ht true [.i,.i] 43 48)] [(.cons 0 none (.cons 1 none (.cons 2 none (.cons 3 none (.cons 4 none (.cons 5 none (.cons 6 none (.cons 7 none (.cons 8 none (.cons 9 none (.cons 10 none .nil)))))))))))]) (.cond 49 (.seq (.ai [qu 4 (.aH (qb false))]) .ret) .skip)))) (.ai [qu 50 (.aF .add 36 (qi 1)),qm 36 50]))))))) (.seq (.seq (.ai [qf 51 2 2,ql 52 51,qu 53 (.len 1 52),qu 54 (.aH (qi 0))]) (.block 2 (.loop (.seq (.ai [qu 55 (.aF .lss 54 53)]) (.seq (.cond 55 .skip (.exit 2)) (.seq (.block 3 (.seq (.ai [qm 56 54,qm 6 56]) (.seq (.bX [qf 57 2 2,ql 58 57,qm 59 6,qu 60 (.bW 4 58 59),qL 61 4 60,qf 62 2 3,ql 63 62,qm 64 6,qu 65 (.bW 4 63 64),qL 66 4 65,qu 7 (.alloc [(.aa (.val (.bool false))),(.aa (.val (.bool false))),qd 0,.aI]),qu 8 (.alloc [(.aa (.val (.bool false))),(.aa (.val (.bool false))),qd 0,.aI]),qw (.store 4 7 61),qw (.store 4 8 66)] [(.cons 0 none (.cons 1 none (.cons 2 none (.cons 3 none (.cons 4 none (.cons 5 none (.cons 6 none (.cons 7 none (.cons 8 none (.cons 9 none (.xJ (.cons 10 (some [9,8,6,4,3,1]) (.cons 11 (some [9,8,6,4,3,1]) (.cons 12 (some [9,8,6]) (.cons 13 (some []) .nil)))) (.cons 11 (some [9,8,6,4,3,1]) (.cons 10 (some [9,8,6,4,3,1]) (.cons 12 (some [9,8,6]) (.cons 13 (some []) .nil)))))))))))))))]) (.seq (.ai [qf 67 0 7,ql 68 67,qf 69 0 8,ql 70 69,qu 71 (.beq true 68 70),qm 72 71,qg 73 (.br 1 7) 72 false,qg 74 (.load false 1 73) 72 false,qg 75 (.br 1 8) 72 false,qg 76 (.load false 1 75) 72 false,qg 77 (.beq true 74 76) 72 false,qu 78 (.pick 72 (qb true) 77),qm 79 78,qg 80 (.br 2 7) 79 false,qg 81 (.load false 1 80) 79 false,qg 82 (.br 2 8) 79 false,qg 83 (.load false 1 82) 79 false,qg 84 (.aF .neq 81 83) 79 false,qu 85 (.pick 79 (qb true) 84),qm 86 85,qg 87 (.br 3 7) 86 false,qg 88 (.load false 1 87) 86 false,qg 89 (.br 3 8) 86 false,qg 90 (.load false 1 89) 86 false,qg 91 (qc 23 [88,90]) 86 false,qg 92 (.un .not 91) 86 false,qu 93 (.pick 86 (qb true) 92)]) (.cond 93 (.seq (.ai [qu 4 (.aH (qb false))]) .ret) .skip))))) (.ai [qu 94 (.aF .add 54 (qi 1)),qm 54 94]))))))) (.seq (.ai [qu 4 (.aH (qb true))]) .ret)))))⟩
def c23:LF:= ⟨26,[.tmp 4],(.seq (.ai [qu 4 (.aH (qb false))]) (.seq (.seq (.ai [qm 6 0,qu 7 (.len 1 6),qm 8 1,qu 9 (.len 1 8),qu 10 (.aF .neq 7 9)]) (.cond 10 (.seq (.ai [qu 4 (.aH (qb false))]) .ret) .skip)) (.seq (.seq (.ai [qm 11 0,qu 12 (.len 1 11),qu 13 (.aH (qi 0))]) (.block 0 (.loop (.seq (.ai [qu 14 (.aF .lss 13 12)]) (.seq (.cond 14 .skip (.exit 0)) (.seq (.block 1 (.seq (.ai [qm 15 13,qm 5 15]) (.seq (.bX [qm 16 0,qm 17 5,qu 18 (.bW 3 16 17),qL 19 3 18,qm 20 1,qm 21 5,qu 22 (.bW 3 20 21),qL 23 3 22,qu 24 (.Ht true [.b,.i,.i] 19 23)] [(.cons 0 none (.cons 1 none (.cons 2 none (.cons 3 none (.cons 4 none (.cons 5 none (.cons 6 none (.cons 7 none (.cons 8 none .nil)))))))))]) (.cond 24 (.seq (.ai [qu 4 (.aH (qb false))]) .ret) .skip)))) (.ai [qu 25 (.aF .add 13 (qi 1)),qm 13 25]))))))) (.seq (.ai [qu 4 (.aH (qb true))]) .ret))))⟩
theorem l23:bx Tryz.prog Tryz.f23=some c23:=by kernel_rfl
theorem Eo(d:List fz)(hd:d.length<=4194304):body Tryz.prog c23 [kP d,kP d] [] (fun r m=>r=ax true):=by
 refine dU aG ?_;refine aK (fun k=>k<=d.length) [0,1,12] (fun k=>[(13,an .i64 (k:Nat))]) (fun _=>[]) (fun k=>d.length-k) 0 (Wi _) ?_ (fun k hk=>?_)
 .refine View.o 0 [] [] ?_ (.nil _);repeat(first|exact .nil|refine .aq ?_|refine .eq rfl ?_)
 have hk:k<=d.length:=hk;refine ay (fun h=>?_) (fun h=>?_)
 .have aB:k<d.length:=by have h:(k:Int)<((d.map fz.enc).length:Int):=h;rw[Nq]at h;omega
  refine ag (uG aB) ?_;refine ag (uG aB) ?_;refine dU aG ?_;refine⟨k+1,aB,(show d.length-(k+1)<d.length-k by omega),View.o 0 [] [] ?_ (.nil _)⟩
  repeat(first|exact .nil|refine .aq ?_|refine .put (.aO (ap om).symm) ?_|refine .eq rfl ?_)
 .exact rfl
theorem B6(d:List fz)(hd:d.length<=4194304){m:Mem}{K:CV->Mem->Prop}(h:K (ax true) m):au Tryz.prog 23 [kP d,kP d] m K:=
 bs Tryz.func23 l23 rfl (X5 rfl) (Eo d hd) rfl rfl h
theorem l11:bx Tryz.prog Tryz.f11=some c11:=by kernel_rfl
theorem lM{l:List bi}{k:Nat}(h:k<l.length):cR (l.map bi.enc) (k:Nat)=some [.val (.int .i64 l[k].bD),.val (.int .i64 l[k].dh)]:=by rw[bn,Q8,IE h];rfl
theorem Ep(k:Kr)(hk:dF k.l k.ops k.ps):body Tryz.prog c11 [cP k.l k.ops k.ps,cP k.l k.ops k.ps] [] (fun r m=>r=ax true):=by
 obtain⟨l,ops,ps⟩:=k;have hk:dF l ops ps:=hk;have h1:=hk.lo;have h2:=hk.lp;refine Lq l ⟨hk.ll,fun o ho=>(hk.sm o ho).mL⟩ (fun o ho=>(hk.sm o ho).t) ?_
 refine dU aG ?_;refine dU aG ?_;refine aK (fun j=>j<=ops.length) [2,3,35] (fun j=>[(36,an .i64 (j:Nat))]) (fun _=>[.var [.aa (cU l),.aa (d5 ops),.aa (ff ps)],.var [.aa (cU l),.aa (d5 ops),.aa (ff ps)]]) (fun j=>ops.length-j) 0 (Wi _) ?_ (fun j hj=>?_)
 .refine View.o1 2 [0,1] [] ?_
  .exact .pe rfl rfl rfl (.pm rfl rfl rfl)
 have hj:j<=ops.length:=hj;refine ay (fun h=>?_) (fun h=>?_)
 .have da:j<ops.length:=by have h:(j:Int)<((ops.map bi.enc).length:Int):=h;rw[Nq]at h;omega
  refine ag (lM da) ?_;refine ag (lM da) ?_;refine dU aG ?_;refine⟨j+1,da,(show ops.length-(j+1)<ops.length-j by omega),View.o 2 [0,1] [] ?_ ?_⟩
  .repeat(first|exact .nil|refine .aq ?_|refine .put (.aO (ap om).symm) ?_|refine .eq rfl ?_)
  .exact .pe rfl rfl rfl (.pm rfl rfl rfl)
 .refine aK (fun p=>p<=ps.length) [2,3,53] (fun p=>[(54,an .i64 (p:Nat))]) (fun _=>[.var [.aa (cU l),.aa (d5 ops),.aa (ff ps)],.var [.aa (cU l),.aa (d5 ops),.aa (ff ps)]]) (fun p=>ps.length-p) 0 (Wi _) ?_ (fun p hp=>?_)
  .refine View.o1 2 [0,1] [] ?_
   .exact .pe rfl rfl rfl (.pm rfl rfl rfl)
  have hp:p<=ps.length:=hp;refine ay (fun h=>?_) (fun h=>?_)
  .have ft:p<ps.length:=by have h:(p:Int)<((ps.map aT.enc).length:Int):=h;rw[Nq]at h;omega
   have hg:=dW ft;have uD:=hk.sl _ (Z0 ft);generalize ps[p]=x at hg uD;refine ag hg ?_;refine ag hg ?_;refine⟨⟨⟨rfl,ag hg rfl,rfl,rfl,ag hg rfl,rfl,trivial⟩,⟨rfl,ag hg rfl,rfl,rfl,ag hg rfl,rfl,trivial⟩,⟨rfl,ag hg rfl,rfl,trivial⟩,trivial,?_⟩,
    ⟨⟨rfl,ag hg rfl,rfl,rfl,ag hg rfl,rfl,trivial⟩,⟨rfl,ag hg rfl,rfl,rfl,ag hg rfl,rfl,trivial⟩,⟨rfl,ag hg rfl,rfl,trivial⟩,trivial,?_⟩⟩
   .refine dU aG ?_;refine dU aG ?_;refine dU aG ?_;refine B6 x.aJ om ?_;refine⟨p+1,ft,(show ps.length-(p+1)<ps.length-p by omega),View.o 4 [0,1] [] ?_ ?_⟩
    .repeat(first|exact .nil|refine .aq ?_|refine .put (.aO (ap om).symm) ?_|refine .eq rfl ?_)
    .exact .pe rfl rfl rfl (.pm rfl rfl rfl)
   .refine dU aG ?_;refine dU aG ?_;refine dU aG ?_;refine B6 x.aJ om ?_;refine⟨p+1,ft,(show ps.length-(p+1)<ps.length-p by omega),View.o 4 [0,1] [] ?_ ?_⟩
    .repeat(first|exact .nil|refine .aq ?_|refine .put (.aO (ap om).symm) ?_|refine .eq rfl ?_)
    .exact .pe rfl rfl rfl (.pm rfl rfl rfl)
  .exact rfl
theorem LV(k:Kr)(hk:dF k.l k.ops k.ps){m:Mem}{K:CV->Mem->Prop}(h:K (ax true) m):au Tryz.prog 11 [cP k.l k.ops k.ps,cP k.l k.ops k.ps] m K:=
 bs Tryz.func11 l11 rfl (X5 rfl) (Ep k hk) (by simp[cP,cU,d5,ff,CV.dm,CC.dm,RV.dm]) rfl h
inductive jL(m:Mem)(Z:Nat->Prop)(p:Option Nat):List CC->List Dt->Prop
 |nil:jL m Z p [] []
 |cons {c:CC} {d:Dt} {r:List CC} {r':List Dt} (h:dC m Z p c d) (hr:jL m Z p r r'):jL m Z p (c::r) (d::r')
theorem jL.len{m:Mem}{Z:Nat->Prop}{p:Option Nat}{a:List CC}{b:List Dt}(h:jL m Z p a b):a.length=b.length:=by induction h<;>simp[*]
theorem jL.get{m:Mem}{Z:Nat->Prop}{p:Option Nat}{a:List CC}{b:List Dt}(h:jL m Z p a b):∀(i:Nat)c d,a[i]? =some c->b[i]? =some d->dC m Z p c d:=by
 induction h with
 |nil=>intro i c d h;simp at h
 |cons h hr ih=>
  intro i c d h1 h2;cases i with
  |zero=>simp at h1 h2;subst h1 h2;exact h
  |succ i=>exact ih i c d (by simpa using h1) (by simpa using h2)
inductive gv(m:Mem)(Z:Nat->Prop)(p:Option Nat):List (List CC)->List (List Dt)->Prop
 |nil:gv m Z p [] []
 |cons {c:List CC} {d:List Dt} {r:List (List CC)} {r':List (List Dt)} (h:jL m Z p c d) (hr:gv m Z p r r'):gv m Z p (c::r) (d::r')
theorem gv.len{m:Mem}{Z:Nat->Prop}{p:Option Nat}{a:List (List CC)}{b:List (List Dt)}(h:gv m Z p a b):a.length=b.length:=by induction h<;>simp[*]
theorem gv.get{m:Mem}{Z:Nat->Prop}{p:Option Nat}{a:List (List CC)}{b:List (List Dt)}(h:gv m Z p a b):∀(i:Nat)c d,a[i]? =some c->b[i]? =some d->jL m Z p c d:=by
 induction h with
 |nil=>intro i c d h;simp at h
 |cons h hr ih=>
  intro i c d h1 h2;cases i with
  |zero=>simp at h1 h2;subst h1 h2;exact h
  |succ i=>exact ih i c d (by simpa using h1) (by simpa using h2)
theorem gv.e8{m:Mem}{Z:Nat->Prop}{p:Option Nat}{id esz:Nat}{elems:List (List CC)}{ds:List (List Dt)}(h:gv m Z (some id) elems ds)(hz:Z id)(hm:m[id]? =some (.row esz elems)):dC m Z p (.row id esz 0 none) (.sl esz ds):=
 dC.row id esz 0 none elems ds hz hm h.len (fun i cs es h1 h2=>(h.get i cs es h1 h2).len) (fun i cs es j c d h1 h2 h3 h4=>(h.get i cs es h1 h2).get j c d h3 h4)
def c61:LF:= ⟨9,[.tmp 2],(.seq (.ai [qu 2 (.aH (qb false))]) (.seq (.ai [qm 3 0,qu 4 (.aF .geq 3 (qi 0)),qm 5 4,qg 6 (.aH 0) 5 true,qg 7 (.aF .leq 6 (qi 4095)) 5 true,qu 8 (.pick 5 7 (qb false)),qm 2 8]) .ret))⟩
def c68:LF:= ⟨24,[.tmp 4,.tmp 5,.tmp 6],(.seq (.ai [qu 4 (.aH qe),qu 5 (.aH (qi 0)),qu 6 (.aH (qi 0))]) (.seq (.ai [qm 10 0,qm 11 1,qu 12 (qc 80 [10,11]),qm 9 12,qu 13 (.ext 9 0),qu 14 (.ext 9 1),qu 7 (.alloc [qd 0,qd 0]),qw (.store 2 7 13),qm 8 14]) (.seq (.seq (.ai [qm 15 8,qu 16 (.aF .neq 15 (qi 0))]) (.cond 16 (.seq (.ai [qm 17 8,qu 4 (.aH qe),qu 5 (.aH (qi 0)),qm 6 17]) .ret) .skip)) (.seq (.ai [qm 18 0,qL 19 2 7,qu 20 (qc 83 [18,19]),qu 21 (.ext 20 0),qu 22 (.ext 20 1),qu 23 (.ext 20 2),qm 4 21,qm 5 22,qm 6 23]) .ret))))⟩
def c80:LF:= ⟨28,[.cell true 2 4,.tmp 5],(.seq (.ai [qu 4 (.alloc [qd 0,qd 0]),qu 5 (.aH (qi 0))]) (.seq (.seq (.ai [qm 6 1,qu 7 (.aF .lss 6 (qi 0)),qm 8 7,qg 9 (.aH 1) 8 false,qg 10 (.aH 0) 8 false,qg 11 (.len 1 10) 8 false,qg 12 (.aF .geq 9 11) 8 false,qu 13 (.pick 8 (qb true) 12),qm 14 13,qg 15 (.aH 0) 14 false,qg 16 (.aH 1) 14 false,qg 17 (.bW 3 15 16) 14 false,qg 18 (.br 0 17) 14 false,qg 19 (.load false 1 18) 14 false,qg 20 (.un .not 19) 14 false,qu 21 (.pick 14 (qb true) 20)]) (.cond 21 (.seq (.ai [qu 22 (.build [qd 0,qd 0] []),qw (.store 2 4 22),qu 5 (.aH (qi 6))]) .ret) .skip)) (.seq (.ai [qm 23 0,qm 24 1,qu 25 (.bW 3 23 24),qf 26 1 25,qL 27 2 26,qw (.store 2 4 27),qu 5 (.aH (qi 0))]) .ret)))⟩
def c83:LF:= ⟨44,[.tmp 4,.tmp 5,.tmp 6],(.seq (.ai [qu 3 (.box 1),qu 4 (.aH qe),qu 5 (.aH (qi 0)),qu 6 (.aH (qi 0))]) (.seq (.seq (.ai [qf 9 1 3,ql 10 9,qu 11 (qc 61 [10]),qu 12 (.un .not 11),qm 13 12,qg 14 (.br 0 3) 13 false,qg 15 (.load false 1 14) 13 false,qg 16 (.aF .lss 15 (qi 0)) 13 false,qu 17 (.pick 13 (qb true) 16)]) (.cond 17 (.seq (.ai [qu 4 (.aH qe),qu 5 (.aH (qi 0)),qu 6 (.aH (qi 3))]) .ret) .skip)) (.seq (.ai [qm 18 0,qu 19 (qc 123 [18,(.c (.rv (.one (.fn 124 []))))]),qm 7 19]) (.seq (.seq (.ai [qm 20 7,qu 21 (.aF .lss 20 (qi 0))]) (.cond 21 (.seq (.seq (.ai [qm 22 0,qu 23 (.len 1 22),qu 24 (.aF .geq 23 (qi 10))]) (.cond 24 (.seq (.ai [qu 4 (.aH qe),qu 5 (.aH (qi 0)),qu 6 (.aH (qi 15))]) .ret) .skip)) (.ai [qm 25 0,qu 26 (.len 1 25),qm 7 26])) .skip)) (.seq (.ai [qm 27 0,qu 28 (qc 107 [27]),qm 8 28]) (.seq (.seq (.ai [qm 29 7,qm 30 8,qu 31 (.len 1 30),qu 32 (.aF .eql 29 31)]) (.cond 32 (.ai [qm 33 8,qu 34 (.build [(.aa (.val (.bool false))),qd 0,qd 0] []),qu 35 (.ln 3 [(.aa (.val (.bool false))),qd 0,qd 0] 1 [(0,34)]),qu 36 (.ni 3 24 33 35),qm 8 36]) .skip)) (.seq (.ai [qm 37 8,qm 38 7,qL 39 2 3,qu 40 (.build [(.aa (.val (.bool false))),qd 0,qd 0] [(0,1,qb true),(1,2,39)]),qu 41 (.bW 3 37 38),qw (.store 3 41 40)]) (.seq (.ai [qm 42 8,qm 43 7,qm 4 42,qm 5 43,qu 6 (.aH (qi 0))]) .ret))))))))⟩
def c123:LF:= ⟨19,[.tmp 4],(.seq (.ai [qu 4 (.aH (qi 0))]) (.seq (.seq (.ai [qm 6 0,qu 7 (.len 1 6),qu 8 (.aH (qi 0))]) (.block 0 (.loop (.seq (.ai [qu 9 (.aF .lss 8 7)]) (.seq (.cond 9 .skip (.exit 0)) (.seq (.block 1 (.seq (.ai [qm 10 8,qm 5 10]) (.seq (.ai [qm 11 1,qm 12 0,qm 13 5,qu 14 (.bW 3 12 13),qL 15 3 14,qu 16 (.call 11 [15])]) (.cond 16 (.seq (.ai [qm 17 5,qm 4 17]) .ret) .skip)))) (.ai [qu 18 (.aF .add 8 (qi 1)),qm 8 18]))))))) (.seq (.ai [qu 4 (.aH (qi (-1)))]) .ret)))⟩
def c124:LF:= ⟨6,[.tmp 2],(.seq (.ai [qu 1 (.box 0),qu 2 (.aH (qb false))]) (.seq (.ai [qf 3 0 1,ql 4 3,qu 5 (.un .not 4),qm 2 5]) .ret))⟩
namespace Tb
structure Cap where
 dk:Int
 bZ:Int
 deriving DecidableEq
structure ct where
 has:Bool
 cap:Cap
 deriving DecidableEq
def ct.enc(s:ct):List Dt:=[.val (.bool s.has),.val (.int .i64 s.cap.dk),.val (.int .i64 s.cap.bZ)]
def p4(l:List ct):Dt:= .sl 3 (l.map ct.enc)
def eH(l:List ct):CV:= .rv (.one (.aa (p4 l)))
def Cap.rv(c:Cap):RV:= .agg [.aa (.val (.int .i64 c.dk)),.aa (.val (.int .i64 c.bZ))]
def cS(n:Int):RV:= .one (.aa (.val (.int .i64 n)))
theorem l80:bx Tryz.prog Tryz.f80=some c80:=by kernel_rfl
def eM(l:List ct)(fd:Int):Cap×Int:=
 match (if 0<=fd then l[fd.toNat]? else none)with
 |some s=>if s.has then(s.cap,0)else(⟨0,0⟩,6)
 |none=>(⟨0,0⟩,6)
theorem LW(l:List ct)(fd:Int):body Tryz.prog c80 [eH l,an .i64 fd] [] (fun r m=>r= .bK [(eM l fd).1.rv,cS (eM l fd).2]):=by
 refine aC (fun h=>?_) (fun h=>?_)
 .have h:fd<0:=of_decide_eq_true h;show CV.bK _=CV.bK _;rw[eM,if_neg om];rfl
 .have h:¬fd<0:=of_decide_eq_false h;refine aC (fun h2=>?_) (fun h2=>?_)
  .have h2:fd>=((l.map ct.enc).length:Int):=of_decide_eq_true h2;simp at h2;show CV.bK _=CV.bK _;rw[eM,if_pos om,abg om];rfl
  .have h2:¬fd>=((l.map ct.enc).length:Int):=of_decide_eq_false h2;simp at h2;have aB:fd.toNat<l.length:=om;have hg:cR (l.map ct.enc) fd=some (l[fd.toNat].enc):=by rw[Gn,if_pos om,Q8,IE aB];rfl
   have hs:eM l fd=if l[fd.toNat].has then(l[fd.toNat].cap,0)else(⟨0,0⟩,6):=by rw[eM,if_pos om,IE aB]
   refine ag hg ?_;refine aC (fun h3=>?_) (fun h3=>?_)
   .have h3:l[fd.toNat].has=false:=by simpa using h3
    show CV.bK _=CV.bK _;rw[hs,h3];rfl
   .have h3:l[fd.toNat].has=true:=by simpa using h3
    refine ag hg ?_;show CV.bK _=CV.bK _;rw[hs,h3];rfl
theorem vU(l:List ct)(fd:Int){m:Mem}{K:CV->Mem->Prop}(h:K (.bK [(eM l fd).1.rv,cS (eM l fd).2]) m):au Tryz.prog 80 [eH l,an .i64 fd] m K:=
 bs Tryz.func80 l80 rfl (X5 rfl) (LW l fd) rfl rfl h
theorem l107:bx Tryz.prog Tryz.f107=some c107:=by kernel_rfl
theorem l61:bx Tryz.prog Tryz.f61=some c61:=by kernel_rfl
theorem l123:bx Tryz.prog Tryz.f123=some c123:=by kernel_rfl
theorem l124:bx Tryz.prog Tryz.f124=some c124:=by kernel_rfl
def eU(n:Int):Bool:=decide (n>=0)&&decide (n<=4095)
theorem Er(n:Int):body Tryz.prog c61 [an .i64 n] [] (fun r m=>r=ax (eU n)):=by
 refine aC (fun h=>?_) (fun h=>?_)
 .show ax _=ax _;unfold eU;rw[h];rfl
 .show ax _=ax _;unfold eU;rw[h];rfl
theorem vV(n:Int){m:Mem}{K:CV->Mem->Prop}(h:K (ax (eU n)) m):au Tryz.prog 61 [an .i64 n] m K:=
 bs Tryz.func61 l61 rfl (X5 rfl) (Er n) rfl rfl h
def ct.cv(s:ct):CV:= .rv (.agg (s.enc.map .aa))
theorem sH(s:ct):body Tryz.prog c124 [s.cv] [] (fun r m=>r=ax (!s.has)):=by show ax _=ax _;rfl
theorem zS(s:ct){m:Mem}{K:CV->Mem->Prop}(h:K (ax (!s.has)) m):au Tryz.prog 124 [s.cv] m K:=
 bs Tryz.func124 l124 rfl (X5 rfl) (sH s) rfl rfl h
def tS{α:Type}(p:α->Bool)(l:List α):Int:=match l.findIdx? p with|some i=>(i:Int)|none=>-1
theorem Es(l:List ct)(hb:l.length<=2097152)(f:Nat)(p:ct->Bool)(hf:∀(s:ct)(m:Mem)(K:CV->Mem->Prop),K (ax (p s)) m->au Tryz.prog f [s.cv] m K):
  body Tryz.prog c123 [eH l,.rv (.one (.fn f []))] [] (fun r m=>r=an .i64 (tS p l)):=by
 refine KY (fun k=>k<=l.length/\∀(i:Nat)s,i<k->l[i]? =some s->p s=false) (fun k=>[(8,an .i64 (k:Nat)),(5,.aq),(9,.aq),(10,.aq),(11,.aq),(12,.aq),(13,.aq),(14,.aq),(15,.aq),(16,.aq),(17,.aq),(18,.aq)])
  (fun _=>[]) (fun k=>l.length-k) 0 ⟨Wi _,fun i s h=>absurd h (abb i)⟩ (Bx (Wi _) ?_) (fun k hk=>?_)
 .repeat(first|exact .nil|refine .aq ?_|refine .eS ?_)
 .refine aC (fun h=>?_) (fun h=>?_)
  .have aB:k<l.length:=by have h:(k:Int)<((l.map ct.enc).length:Int):=of_decide_eq_true h;simp at h;omega
   have hg:cR (l.map ct.enc) (k:Nat)=some (l[k].enc):=by rw[bn,Q8,IE aB];rfl
   refine ag hg ?_;refine hf l[k] _ _ ?_;refine aC (fun h3=>?_) (fun h3=>?_)
   .show an _ _=an _ _;have:l.findIdx? p=some k:=by
     rw[abz];refine⟨aB,h3,fun j hj=>?_⟩
     have:=hk.2 j l[j] hj (IE om);simp[this]
    rw[tS,this]
   .refine⟨k+1,⟨aB,fun i s hi hs=>?_⟩,?_,Bx (Wi _) ?_⟩
    .rcases ZX i k with h5|h5
     .exact hk.2 i s h5 hs
     .have:i=k:=om;subst this;rw[IE aB]at hs;cases hs;exact h3
    .show l.length-(k+1)<l.length-k;omega
    .repeat(first|exact .nil|refine .aq ?_|refine .put (ap om) ?_|refine .eS ?_)
  .have ew:¬(k:Int)<((l.map ct.enc).length:Int):=of_decide_eq_false h;simp at ew;show an _ _=an _ _;have:l.findIdx? p=none:=by rw[aco];intro s hs;obtain⟨i,hi⟩:=Xf hs;have:=(Mh.1 hi).1;simpa using hk.2 i s om hi
   rw[tS,this]
theorem LX(l:List ct)(hb:l.length<=2097152)(f:Nat)(p:ct->Bool)(hf:∀(s:ct)(m:Mem)(K:CV->Mem->Prop),K (ax (p s)) m->au Tryz.prog f [s.cv] m K){m:Mem}{K:CV->Mem->Prop}(h:K (an .i64 (tS p l)) m):au Tryz.prog 123 [eH l,.rv (.one (.fn f []))] m K:=
 bs Tryz.func123 l123 rfl (X5 rfl) (Es l hb f p hf) rfl rfl h
def cr(l:List ct):List (List CC):=(l.map ct.enc).map fun ds=>ds.map CC.aa
theorem B7(l:List ct)(hb:l.length<=2097152):body Tryz.prog c107 [eH l] [] (fun r m=>(l=[]/\r= .rv (.one .aI))\/(r= .rv (.one (.row 1 3 0 none))/\m[1]? =some (.row 3 ([]++cr l)))):=by
 have lJ:((([]:List (List CC)).length+((l.map ct.enc).map fun ds=>ds.map CC.aa).length)*24)<=140737488355328:=by simp;omega
 refine aC (fun h=>?_) (fun h=>?_)
 .have hl:l=[]:=Z1 (by simpa using Z2 h)
  exact⟨.inl ⟨hl,rfl⟩,lJ,.inr ⟨rfl,rfl⟩⟩
 .exact⟨lJ,.inr ⟨rfl,rfl⟩⟩
theorem o4(l:List ct)(hb:l.length<=2097152){m:Mem}{K:CV->Mem->Prop}(h1:l=[]->K (.rv (.one .aI)) m)(h2:K (.rv (.one (.row m.length 3 0 none))) (m++ [.row 3 (cr l)])):
  au Tryz.prog 107 [eH l] m K:=by
 refine H7 (aX Tryz.func107 l107 (B7 l hb)) (by simp[eH,CV.dm,CC.dm]) fun r m1 hr=>?_
 rcases hr with⟨hl,rfl⟩|⟨rfl,hm⟩
 .exact .inl ⟨rfl,h1 hl⟩
 .refine .inr ⟨1,3,cr l,rfl,by simpa using hm,fun cs eJ c hc=>?_,fun i cs j d hi hj=>?_,h2⟩
  .simp only[cr,aaQ]at eJ;obtain⟨ds,⟨s,_,rfl⟩,rfl⟩:=eJ;obtain⟨d,_,rfl⟩:=aaQ.1 hc;exact⟨d,rfl⟩
  .have eJ:=Rq hi;simp only[cr,aaQ]at eJ;obtain⟨ds,⟨s,_,rfl⟩,rfl⟩:=eJ;have hd:=Rq hj;simp only[ct.enc,abv,ac0,abo,CC.aa.injEq,acp,or_false]at hd;rcases hd with rfl|rfl|rfl<;>exact⟨_,rfl⟩
theorem l83:bx Tryz.prog Tryz.f83=some c83:=by kernel_rfl
def iH(l:List ct)(c:Cap):List ct×Int×Int:=
 if eU c.bZ=false\/c.dk<0 then([],0,3)else
 match l.findIdx? (fun s=>!s.has)with
 |some k=>(l.set k ⟨true,c⟩,k,0)
 |none=>if l.length>=10 then([],0,15)else(l++ [⟨true,c⟩],l.length,0)
def i3(l:List ct):RV:= .one (.aa (p4 l))
theorem lW{m:Mem}{a b:RV}{x y:Int}(h:eT m a b):cJ m (.bK [a,cS x,cS y]) (.bK [b,cS x,cS y]):=by
 refine .bK rfl fun i r r' h1 h2=>?_
 match i,h1,h2 with
 |0,h1,h2=>cases h1;cases h2;exact h
 |1,h1,h2=>cases h1;cases h2;exact eT.self rfl
 |2,h1,h2=>cases h1;cases h2;exact eT.self rfl
theorem GH{l:List ct}{c:Cap}{m:Mem}(h:eU c.bZ=false\/c.dk<0):cJ m (.bK [.one .aI,cS 0,cS 3]) (.bK [i3 (iH l c).1,cS (iH l c).2.1,cS (iH l c).2.2]):=by rw[iH,if_pos h];exact lW (.one (.aI 3))
theorem LY{l:List ct}{c:Cap}{m:Mem}(h:¬(eU c.bZ=false\/c.dk<0))(hk:l.findIdx? (fun s=>!s.has)=none)(hl:l.length>=10):
  cJ m (.bK [.one .aI,cS 0,cS 15]) (.bK [i3 (iH l c).1,cS (iH l c).2.1,cS (iH l c).2.2]):=by
 rw[iH,if_neg h,hk];simp only;rw[if_pos hl];exact lW (.one (.aI 3))
theorem GI{l:List ct}{c:Cap}{m:Mem}{id:Nat}(h:¬(eU c.bZ=false\/c.dk<0))(hk:l.findIdx? (fun s=>!s.has)=none)(hl:¬l.length>=10)(hm:m[id]? =some (.row 3 (cr (l++ [⟨true,c⟩])))):
  cJ m (.bK [.one (.row id 3 0 none),cS ((l.map ct.enc).length:Nat),cS 0]) (.bK [i3 (iH l c).1,cS (iH l c).2.1,cS (iH l c).2.2]):=by
 rw[iH,if_neg h,hk,Nq];simp only;rw[if_neg hl];exact lW (.one (d9.dJ hm 0 none))
theorem OY{l:List ct}{c:Cap}{m:Mem}{id k:Nat}(h:¬(eU c.bZ=false\/c.dk<0))(hk:l.findIdx? (fun s=>!s.has)=some k)(hm:m[id]? =some (.row 3 (cr (l.set k ⟨true,c⟩)))):
  cJ m (.bK [.one (.row id 3 0 none),cS k,cS 0]) (.bK [i3 (iH l c).1,cS (iH l c).2.1,cS (iH l c).2.2]):=by
 rw[iH,if_neg h,hk];exact lW (.one (d9.dJ hm 0 none))
theorem LZ(l:List ct)(hb:l.length<=2097152)(c:Cap):body Tryz.prog c83 [eH l,.rv c.rv] [] (fun r m=>cJ m r (.bK [i3 (iH l c).1,cS (iH l c).2.1,cS (iH l c).2.2])):=by
 refine vV c.bZ ?_;refine aC (fun h=>?_) (fun hr=>?_)
 .exact GH (.inl (by simpa using h))
 .refine aC (fun h=>?_) (fun ho=>?_)
  .exact GH (.inr (of_decide_eq_true h))
  .have jJ:¬(eU c.bZ=false\/c.dk<0):=by have:=of_decide_eq_false ho;simp at hr;simp[hr];omega
   refine LX l hb 124 (fun s=>!s.has) (fun s m K h=>zS s h) ?_
   cases hk:l.findIdx? (fun s=>!s.has)with
   |none=>
    have hi:tS (fun s:ct=>!s.has) l= -1:=by rw[tS,hk]
    rw[hi];refine aC (fun h=>?_) (fun h=>?_)
    .have ew:l.length>=10:=by have h:=of_decide_eq_true h;simp at h;omega
     exact LY jJ hk ew
    .have aB:¬l.length>=10:=by have h:=of_decide_eq_false h;simp at h;omega
     refine o4 l hb (fun hl=>?_) ?_
     .subst hl;refine⟨by decide,?_⟩
      exact GI jJ hk aB rfl
     .refine bY (by simp[cr,lenOf]) ?_
      refine⟨by simp[cr,cD];omega,?_⟩
      have hlen:(cr l).length=l.length:=by simp[cr]
      refine ag (cn (k:=(l.map ct.enc).length) (by simp[cr,lenOf,cD])) ?_
      refine ag (x:=[CC.aa (.val (.bool false)),CC.aa (.val (.int .i64 0)),CC.aa (.val (.int .i64 0))]) (by simp[aZ,cr,cD,ib]) ?_
      refine GI (id:=3) jJ hk aB ?_;refine congrArg (fun x=>some (Bk.row 3 x)) ?_
      show bb (cr l++ [[CC.aa (.val (.bool false)),CC.aa (.val (.int .i64 0)),CC.aa (.val (.int .i64 0))]]) (l.map ct.enc).length [CC.aa (.val (.bool true)),CC.aa (.val (.int .i64 c.dk)),CC.aa (.val (.int .i64 c.bZ))]=_;rw[bj,Nq,<-hlen,acU _ _ (SS _),acH];simp[cr,ct.enc]
   |some k=>
    have hi:tS (fun s:ct=>!s.has) l=(k:Int):=by rw[tS,hk]
    have fj:k<l.length:=(abz.1 hk).1;rw[hi];refine o4 l hb (fun hl=>?_) ?_
    .subst hl;simp at fj
    .have hlen:(cr l).length=l.length:=by simp[cr]
     refine dU (by simp[hlen,lenOf];omega) ?_
     refine ag (cn (k:=k) (by simp[hlen,lenOf];omega)) ?_
     refine ag (x:=(l[k].enc).map .aa) (by simp[aZ,cr,ib,fj]) ?_
     refine OY (id:=1) jJ hk ?_;refine congrArg (fun x=>some (Bk.row 3 x)) ?_
     show bb (cr l) k [CC.aa (.val (.bool true)),CC.aa (.val (.int .i64 c.dk)),CC.aa (.val (.int .i64 c.bZ))]=_;rw[bj];simp[cr,ct.enc]
theorem L4(l:List ct)(hb:l.length<=2097152)(c:Cap){m:Mem}{K:CV->Mem->Prop}(h:K (.bK [i3 (iH l c).1,cS (iH l c).2.1,cS (iH l c).2.2]) m):au Tryz.prog 83 [eH l,.rv c.rv] m K:=
 be (aX Tryz.func83 l83 (LZ l hb c)) (by simp[eH,Cap.rv,CV.dm,CC.dm]) fun r m1 hf=>⟨_,hf,h⟩
theorem l68:bx Tryz.prog Tryz.f68=some c68:=by kernel_rfl
def uk(l:List ct)(fd:Int):List ct×Int×Int:=if(eM l fd).2=0 then iH l (eM l fd).1 else([],0,(eM l fd).2)
theorem L5(l:List ct)(hb:l.length<=2097152)(fd:Int):body Tryz.prog c68 [eH l,an .i64 fd] [] (fun r m=>cJ m r (.bK [i3 (uk l fd).1,cS (uk l fd).2.1,cS (uk l fd).2.2])):=by
 refine vU l fd ?_;refine aC (fun h=>?_) (fun h=>?_)
 .have h:¬(eM l fd).2=0:=by simpa using h
  rw[uk,if_neg h];exact lW (.one (.aI 3))
 .have h:(eM l fd).2=0:=by simpa using h
  rw[uk,if_pos h];refine L4 l hb (eM l fd).1 ?_;exact cJ.self rfl
theorem SA(l:List ct)(hb:l.length<=2097152)(fd:Int){m:Mem}{K:CV->Mem->Prop}(h:K (.bK [i3 (uk l fd).1,cS (uk l fd).2.1,cS (uk l fd).2.2]) m):au Tryz.prog 68 [eH l,an .i64 fd] m K:=
 be (aX Tryz.func68 l68 (L5 l hb fd)) (by simp[eH,an,CV.dm,CC.dm]) fun r m1 hf=>⟨_,hf,h⟩
end Tb
def c67:LF:= ⟨43,[.tmp 4,.tmp 5],(.seq (.ai [qu 4 (.aH qe),qu 5 (.aH (qi 0))]) (.seq (.seq (.ai [qm 10 0,qm 11 1,qu 12 (qc 80 [10,11]),qm 9 12,qu 13 (.ext 9 0),qu 14 (.ext 9 1),qu 6 (.alloc [qd 0,qd 0]),qw (.store 2 6 13),qm 7 14]) (.seq (.ai [qm 15 7,qu 16 (.aF .neq 15 (qi 0))]) (.cond 16 (.seq (.ai [qm 17 7,qu 4 (.aH qe),qm 5 17]) .ret) .skip))) (.seq (.ai [qm 18 0,qu 19 (qc 107 [18]),qm 8 19]) (.seq (.ai [qm 20 8,qm 21 1,qu 22 (.build [(.aa (.val (.bool false))),qd 0,qd 0] []),qu 23 (.bW 3 20 21),qw (.store 3 23 22)]) (.seq (.block 0 (.loop (.seq (.seq (.ai [qm 24 8,qu 25 (.len 1 24),qu 26 (.aF .gtr 25 (qi 0)),qm 27 26,qg 28 (.aH 8) 27 true,qg 29 (.aH 8) 27 true,qg 30 (.len 1 29) 27 true,qg 31 (.aF .sub 30 (qi 1)) 27 true,qg 32 (.bW 3 28 31) 27 true,qg 33 (.br 0 32) 27 true,qg 34 (.load false 1 33) 27 true,qg 35 (.un .not 34) 27 true,qu 36 (.pick 27 35 (qb false))]) (.cond 36 .skip (.exit 0))) (.block 1 (.ai [qm 37 8,qm 38 8,qu 39 (.len 1 38),qu 40 (.aF .sub 39 (qi 1)),qu 41 (.nh 3 37 none (some 40) none),qm 8 41]))))) (.seq (.ai [qm 42 8,qm 4 42,qu 5 (.aH (qi 0))]) .ret))))))⟩
def c103:LF:= ⟨28,[.cell true 2 6,.tmp 7],(.seq (.ai [qu 6 (.alloc [qd 0,qd 0]),qu 7 (.aH (qi 0))]) (.seq (.ai [qm 11 0,qm 12 1,qu 13 (qc 80 [11,12]),qm 10 13,qu 14 (.ext 10 0),qu 15 (.ext 10 1),qu 8 (.alloc [qd 0,qd 0]),qw (.store 2 8 14),qm 9 15]) (.seq (.seq (.ai [qm 16 9,qu 17 (.aF .eql 16 (qi 0)),qm 18 17,qg 19 (.aH 2) 18 true,qg 20 (.br 1 8) 18 true,qg 21 (.load false 1 20) 18 true,qg 22 (qc 108 [19,21]) 18 true,qg 23 (.un .not 22) 18 true,qu 24 (.pick 18 23 (qb false))]) (.cond 24 (.seq (.ai [qu 25 (.build [qd 0,qd 0] []),qw (.store 2 6 25),qu 7 (.aH (qi 10))]) .ret) .skip)) (.seq (.ai [qL 26 2 8,qm 27 9,qw (.store 2 6 26),qm 7 27]) .ret))))⟩
def c108:LF:= ⟨9,[.tmp 4],(.seq (.ai [qu 4 (.aH (qb false))]) (.seq (.ai [qm 5 0,qm 6 1,qu 7 (.aF .andNot 5 6),qu 8 (.aF .eql 7 (qi 0)),qm 4 8]) .ret))⟩
namespace Tb
theorem l108:bx Tryz.prog Tryz.f108=some c108:=by kernel_rfl
def j0(a b:Int):Bool:=(IntKind.i64.wrap ((BitVec.ofInt 64 a&&& ~~~ BitVec.ofInt 64 b).toNat:Int))==0
theorem yx(a b:Int){m:Mem}{K:CV->Mem->Prop}(h:K (ax (j0 a b)) m):au Tryz.prog 108 [an .i64 a,an .i64 b] m K:=
 bs (r0:=ax (j0 a b)) Tryz.func108 l108 rfl (X5 rfl) (show body Tryz.prog c108 [an .i64 a,an .i64 b] [] (fun r m=>r=ax (j0 a b))from rfl) rfl rfl h
theorem l103:bx Tryz.prog Tryz.f103=some c103:=by kernel_rfl
def oi(l:List ct)(fd need:Int):Cap×Int:=
 if(eM l fd).2=0/\j0 need (eM l fd).1.bZ=false then(⟨0,0⟩,10)else eM l fd
theorem sI(l:List ct)(fd need:Int):body Tryz.prog c103 [eH l,an .i64 fd,an .i64 need] [] (fun r m=>r= .bK [(oi l fd need).1.rv,cS (oi l fd need).2]):=by
 refine vU l fd ?_;refine aC (fun h=>?_) (fun h=>?_)
 .have h:(eM l fd).2=0:=by simpa using h
  refine yx _ _ ?_;refine aC (fun h2=>?_) (fun h2=>?_)
  .have h2:j0 need (eM l fd).1.bZ=false:=by simpa using h2
   show CV.bK _=CV.bK _;rw[oi,if_pos ⟨h,h2⟩];rfl
  .have h2:j0 need (eM l fd).1.bZ=true:=by simpa using h2
   show CV.bK _=CV.bK _;rw[oi,if_neg (by simp[h2])];rfl
 .have h:¬(eM l fd).2=0:=by simpa using h
  show CV.bK _=CV.bK _;rw[oi,if_neg (by simp[h])];rfl
theorem j7(l:List ct)(fd need:Int){m:Mem}{K:CV->Mem->Prop}(h:K (.bK [(oi l fd need).1.rv,cS (oi l fd need).2]) m):au Tryz.prog 103 [eH l,an .i64 fd,an .i64 need] m K:=
 bs Tryz.func103 l103 rfl (X5 rfl) (sI l fd need) rfl rfl h
theorem l67:bx Tryz.prog Tryz.f67=some c67:=by kernel_rfl
def yy:Nat->Nat->List ct->Nat
 |_,b,[]=>b
 |k,b,s::r=>yy (k+1) (if s.has then k+1 else b) r
theorem Et(l:List ct)(k b i:Nat)(h:i<l.length):yy k b (l.take (i+1))=if l[i].has then k+i+1 else yy k b (l.take i):=by
 induction l generalizing k b i with
 |nil=>simp at h
 |cons s r ih=>
  cases i with
  |zero=>simp[yy]
  |succ i=>
   simp at h;have:=ih (k+1) (if s.has then k+1 else b) i h
   rw[show k+1+i=k+(i+1) by omega]at this
   simp only[List.take_succ_cons,yy,this,List.getElem_cons_succ]
def rx(l:List ct):Nat:=yy 0 0 l
theorem Eu(l:List ct)(i:Nat)(h:i<l.length):rx (l.take (i+1))=if l[i].has then i+1 else rx (l.take i):=by rw[rx,Et l 0 0 i h];simp[rx]
def sJ:ct:=⟨false,⟨0,0⟩⟩
def mZ(l:List ct)(fd:Int):List ct×Int:=
 if(eM l fd).2=0 then((l.set fd.toNat sJ).take (rx (l.set fd.toNat sJ)),0)else([],(eM l fd).2)
theorem GJ{l:List ct}{fd:Int}(h:(eM l fd).2=0):∃k:Nat,fd=k/\∃hk:k<l.length,l[k].has=true/\(eM l fd).1=l[k].cap:=by
 unfold eM at h;split at h
 .rename_i s hs;split at hs
  .refine⟨fd.toNat,om,(Mh.1 hs).1,?_⟩;have e:=(Mh.1 hs).2;split at h
   .rename_i h0 hh;rw[e];refine⟨hh,?_⟩;rw[eM,if_pos h0,hs];simp[hh]
   .simp at h
  .cases hs
 .simp at h
theorem jX{m:Mem}{a b:RV}{x:Int}(h:eT m a b):cJ m (.bK [a,cS x]) (.bK [b,cS x]):=by
 refine .bK rfl fun i r r' h1 h2=>?_
 match i,h1,h2 with
 |0,h1,h2=>cases h1;cases h2;exact h
 |1,h1,h2=>cases h1;cases h2;exact eT.self rfl
theorem B8{m:Mem}{id h:Nat}{l:List ct}(hm:m[id]? =some (.row 3 (af (l.map ct.enc)))):d9 m (.row id 3 0 (some h)) (.aa (p4 (l.take h))):=by
 have h1:d9 m (.row id 3 0 (some h)) (.aa (.sl 3 (cD (l.map ct.enc) 0 (some h)))):=d9.dJ hm 0 (some h);have h2:cD (l.map ct.enc) 0 (some h)=(l.take h).map ct.enc:=by simp[cD,acu]
 rw[h2]at h1;exact h1
theorem Ev(l:List ct)(hb:l.length<=2097152)(fd:Int):body Tryz.prog c67 [eH l,an .i64 fd] [] (fun r m=>cJ m r (.bK [i3 (mZ l fd).1,cS (mZ l fd).2])):=by
 refine vU l fd ?_;refine aC (fun h=>?_) (fun h=>?_)
 .have h:¬(eM l fd).2=0:=by simpa using h
  rw[mZ,if_neg h];exact jX (.one (.aI 3))
 .have h:(eM l fd).2=0:=by simpa using h
  rw[mZ,if_pos h];obtain⟨k,rfl,hk,V1,_⟩:=GJ h;refine o4 l hb (fun hl=>by subst hl;simp at hk) ?_
  refine ag (cn (k:=k) (by simp[cr,lenOf];omega)) ?_
  refine ag (x:=(l[k].enc).map .aa) (by simp[aZ,cr,ib,hk]) ?_
  have jT:bb (cr l) (ib 0 k) [CC.aa (.val (.bool false)),CC.aa (.val (.int .i64 0)),CC.aa (.val (.int .i64 0))]=af ((l.set k sJ).map ct.enc):=by rw[bj];simp[cr,ct.enc,af,ib,sJ]
  have hlen:(l.set k sJ).length=l.length:=aG;rw[show((k:Nat):Int).toNat=k from rfl];generalize l.set k sJ=l2 at jT hlen;refine vA (fun h=>h<=l2.length/\rx (l2.take h)=rx l2) (fun h=>[(8,.rv (.one (.row 1 3 0 (some h)))),(24,.aq),(25,.aq),(26,.aq),(27,.aq),(28,.aq),(29,.aq),(30,.aq),(31,.aq),(32,.aq),(33,.aq),(34,.aq),(35,.aq),(36,.aq),(37,.aq),(38,.aq),(39,.aq),(40,.aq),(41,.aq),(19,.aq),(20,.aq),(23,.aq)])
   (fun h=>[.aW,.row 3 (af (l2.map ct.enc))]) (fun h=>h) l2.length ⟨SS _,by rw[abp]⟩ ?_ (fun h hh=>?_)
  .refine View.o 2 [0,1] [] ?_ ?_
   .repeat(first|exact .nil|refine .aq ?_|refine .put (.hi rfl rfl ((congrArg List.length jT).trans (by simp[af]))) ?_|refine .eq rfl ?_)
   .exact .aW (.put (by simp[bz]) rfl (.bM jT) (.nil _))
  .refine aC (fun h2=>?_) (fun h2=>?_)
   .have h2:0<h:=by have h2:((h:Nat):Int)>0:=of_decide_eq_true h2;omega
    obtain⟨j,rfl⟩:∃j,h=j+1:=⟨h-1,om⟩;have hj:j<l2.length:=om;have hi:(IntKind.i64.wrap (((j+1:Nat):Int)-1))=((j:Nat):Int):=by rw[<-np (n:=j) om];congr 1;omega
    have sw:dH (IntKind.i64.wrap (((j+1:Nat):Int)-1)) (j+1)=some j:=by rw[hi];exact cn om
    refine ag sw ?_;refine ag (x:=(l2[j].enc).map .aa) (by simp[aZ,af,ib,hj]) ?_
    have ht:=Eu l2 j hj;refine aC (fun h3=>?_) (fun h3=>?_)
    .have h3:l2[j].has=false:=by simpa using h3
     refine ag (x:=j) (by show nR (.rv (.one (.aa (.val (.int .i64 (IntKind.i64.wrap (((j+1:Nat):Int)-1)))))))=_;rw[hi];rfl) ?_
     refine bY (by simp[lenOf,abr,af];try omega) ?_
     refine⟨j,⟨om,by rw[h3]at ht;simp at ht;rw[<-ht];exact hh.2⟩,ab7 j,View.o1 2 [0,1] [] ?_⟩
     .exact .aW (.put (by simp[bz]) rfl (.bM rfl) (.nil _))
    .have h3:l2[j].has=true:=by simpa using h3
     have:rx l2=j+1:=by rw[<-hh.2,ht,if_pos h3]
     rw[this];exact jX (.one (B8 rfl))
   .have h2:h=0:=by have h2:¬((h:Nat):Int)>0:=of_decide_eq_false h2;omega
    subst h2;have:rx l2=0:=by rw[<-hh.2];rfl
    rw[this];exact jX (.one (B8 rfl))
theorem L6(l:List ct)(hb:l.length<=2097152)(fd:Int){m:Mem}{K:CV->Mem->Prop}(h:K (.bK [i3 (mZ l fd).1,cS (mZ l fd).2]) m):au Tryz.prog 67 [eH l,an .i64 fd] m K:=
 be (aX Tryz.func67 l67 (Ev l hb fd)) (by simp[eH,an,CV.dm,CC.dm]) fun r m1 hf=>⟨_,hf,h⟩
end Tb
def c35:LF:= ⟨22,[.tmp 4],(.seq (.ai [qu 2 (.box 0),qu 4 (.aH (qb false))]) (.seq (.ai [qm 5 1,qu 6 (.aF .geq 5 (qi 0)),qm 7 6,qg 8 (.aH 1) 7 true,qg 9 (.br 2 2) 7 true,qg 10 (.load false 1 9) 7 true,qg 11 (.len 1 10) 7 true,qg 12 (.aF .lss 8 11) 7 true,qu 13 (.pick 7 12 (qb false)),qm 14 13,qg 15 (.br 2 2) 14 true,qg 16 (.load false 1 15) 14 true,qg 17 (.aH 1) 14 true,qg 18 (.bW 4 16 17) 14 true,qg 19 (.br 0 18) 14 true,qg 20 (.load false 1 19) 14 true,qu 21 (.pick 14 20 (qb false)),qm 4 21]) .ret))⟩
def c120:LF:= ⟨19,[.tmp 4],(.seq (.ai [qu 4 (.aH (qi 0))]) (.seq (.seq (.ai [qm 6 0,qu 7 (.len 1 6),qu 8 (.aH (qi 0))]) (.block 0 (.loop (.seq (.ai [qu 9 (.aF .lss 8 7)]) (.seq (.cond 9 .skip (.exit 0)) (.seq (.block 1 (.seq (.ai [qm 10 8,qm 5 10]) (.seq (.ai [qm 11 1,qm 12 0,qm 13 5,qu 14 (.bW 2 12 13),qL 15 2 14,qu 16 (.call 11 [15])]) (.cond 16 (.seq (.ai [qm 17 5,qm 4 17]) .ret) .skip)))) (.ai [qu 18 (.aF .add 8 (qi 1)),qm 8 18]))))))) (.seq (.ai [qu 4 (.aH (qi (-1)))]) .ret)))⟩
def c121:LF:= ⟨6,[.tmp 2],(.seq (.ai [qu 1 (.box 0),qu 2 (.aH (qb false))]) (.seq (.ai [qf 3 0 1,ql 4 3,qu 5 (.aF .lss 4 (qi 0)),qm 2 5]) .ret))⟩
def c125:LF:= ⟨37,[.tmp 2],(.seq (.ai [qu 2 (.aH (qi 0))]) (.seq (.seq (.ai [qu 5 (.aH (qi 0))]) (.block 0 (.loop (.seq (.ai [qu 6 (.aF .lss 5 (qi 8))]) (.seq (.cond 6 .skip (.exit 0)) (.seq (.block 1 (.seq (.ai [qm 7 5,qu 3 (.alloc [qd 0]),qw (.store 1 3 7)]) (.seq (.seq (.bX [ql 8 3,qm 9 0,qu 10 (.aY 9),qf 11 2 10,ql 12 11,qu 13 (.len 1 12),qu 14 (.aF .eql 8 13)] [(.cons 0 none (.cons 1 none (.cons 2 none (.cons 3 none (.cons 4 none (.cons 5 none (.cons 6 none .nil)))))))]) (.cond 14 (.seq (.ai [ql 15 3,qm 2 15]) .ret) .skip)) (.seq (.ai [qm 16 0,qu 17 (.aY 16),qf 18 0 17,ql 19 18,qu 20 (.fn 148 [3]),qu 21 (qc 87 [19,20]),qm 4 21]) (.seq (.bX [qm 22 0,qu 23 (.aY 22),qf 24 2 23,ql 25 24,ql 26 3,qu 27 (.bW 4 25 26),qf 28 0 27,ql 29 28,qu 30 (.un .not 29),qm 31 30,qg 32 (.aH 4) 31 true,qg 33 (.un .not 32) 31 true,qu 34 (.pick 31 33 (qb false))] [(.cons 0 none (.cons 1 none (.cons 2 none (.cons 3 none (.cons 4 none (.cons 5 none (.cons 6 none (.cons 7 none (.cons 8 none (.cons 9 none (.cons 10 none (.cons 11 none (.cons 12 none .nil)))))))))))))]) (.cond 34 (.seq (.ai [ql 35 3,qm 2 35]) .ret) .skip)))))) (.ai [qu 36 (.aF .add 5 (qi 1)),qm 5 36]))))))) (.seq (.ai [qu 2 (.aH (qi (-1)))]) .ret)))⟩
def c148:LF:= ⟨13,[.tmp 3],(.seq (.ai [qu 2 (.box 0),qu 3 (.aH (qb false))]) (.seq (.ai [qf 4 0 2,ql 5 4,qu 6 (.aF .eql 5 (qi 5)),qm 7 6,qg 8 (.br 6 2) 7 true,qg 9 (.load false 1 8) 7 true,qg 10 (.load false 1 1) 7 true,qg 11 (.aF .eql 9 10) 7 true,qu 12 (.pick 7 11 (qb false)),qm 3 12]) .ret))⟩
theorem l35:bx Tryz.prog Tryz.f35=some c35:=by kernel_rfl
def fu(ps:List aT)(p:Int):Bool:=decide (p>=0)&&(decide (p<ps.length)&&match ps[p.toNat]? with|some x=>x.aQ|none=>false)
theorem Ew(l:List Obj)(ops:List bi)(ps:List aT)(p:Int):body Tryz.prog c35 [cP l ops ps,an .i64 p] [] (fun r m=>r=ax (fu ps p)):=by
 refine ay (fun h0=>?_) (fun h0=>?_)
 .obtain⟨n,rfl⟩:∃n:Nat,p=n:=⟨p.toNat,om⟩;refine ay (fun h=>?_) (fun h=>?_)
  .have aB:n<ps.length:=by have h:(n:Int)<((ps.map aT.enc).length:Int):=h;rw[Nq]at h;omega
   refine ag (dW aB) ?_;have hS:fu ps (n:Int)=ps[n].aQ:=by simp[fu,aB]
   show ax _=ax _;rw[hS]
  .have ew:¬n<ps.length:=by have h:¬(n:Int)<((ps.map aT.enc).length:Int):=h;rw[Nq]at h;omega
   have hS:fu ps (n:Int)=false:=by simp[fu,ew]
   show ax _=ax _;rw[hS]
 .have hS:fu ps p=false:=by have:decide (p>=0)=false:=decide_eq_false h0;simp[fu,this]
  show ax _=ax _;rw[hS]
theorem ol(l:List Obj)(ops:List bi)(ps:List aT)(p:Int){m:Mem}{K:CV->Mem->Prop}(h:K (ax (fu ps p)) m):au Tryz.prog 35 [cP l ops ps,an .i64 p] m K:=
 bs Tryz.func35 l35 rfl (X5 rfl) (Ew l ops ps p) (by simp[cP,cU,d5,ff,an,CV.dm,CC.dm,RV.dm]) rfl h
theorem oo{ps:List aT}{p:Int}(h:fu ps p=true):∃n:Nat,p=n/\∃hn:n<ps.length,ps[n].aQ=true:=by
 unfold fu at h;by_cases h0:p>=0
 .obtain⟨n,rfl⟩:∃n:Nat,p=n:=⟨p.toNat,om⟩;by_cases hn:n<ps.length
  .refine⟨n,rfl,hn,?_⟩;simpa[hn]using h
  .simp[hn]at h
 .simp[h0]at h
theorem OZ{ps:List aT}{n:Nat}(hn:n<ps.length)(h:ps[n].aQ=true):fu ps (n:Int)=true:=by simp[fu,hn,h]
theorem l125:bx Tryz.prog Tryz.f125=some c125:=by kernel_rfl
theorem l148:bx Tryz.prog Tryz.f148=some c148:=by kernel_rfl
theorem Ey(o:Obj)(p:Int):body Tryz.prog c148 [o.cv,.rv (.one (.ptr 0 0))] [.var ([Dt.val (.int .i64 p)].map .aa)] (fun r m=>r=ax (cH p o)/\∃ex,m= .var ([Dt.val (.int .i64 p)].map .aa)::ex):=by
 refine aC (fun h=>?_) (fun h=>?_)
 .refine⟨?_,_,rfl⟩;show ax _=ax _;rw[cH,h];rfl
 .refine⟨?_,_,rfl⟩;show ax _=ax _;rw[cH,h];rfl
theorem V2(o:Obj)(p:Int)(K:CV->Mem->Prop)(h:K (ax (cH p o)) [.var ([Dt.val (.int .i64 p)].map .aa)]):au Tryz.prog 148 [o.cv,.rv (.one (.ptr 0 0))] [.var ([Dt.val (.int .i64 p)].map .aa)] K:=
 eF rfl (aX Tryz.func148 l148 (Ey o p)) h
def tT(l:List Obj)(ps:List aT)(p:Nat):Bool:=match ps[p]? with
 |some x=>!x.aQ&& !(l.any (cH (p:Nat)))
 |none=>false
def oq(l:List Obj)(ps:List aT):Nat->Nat->Int
 |0,_=>-1
 |n+1,p=>if p=ps.length then(p:Nat)else if tT l ps p=true then(p:Nat)else oq l ps n (p+1)
def gw(l:List Obj)(ps:List aT):Int:=oq l ps 8 0
def kC(l:List Obj)(ops:List bi)(ps:List aT):List Dt:=[cU l,d5 ops,ff ps]
theorem sH(l:List Obj)(hl:l.length<=4194304)(ops:List bi)(ps:List aT):body Tryz.prog c125 [.rv (.one (.ptr 0 0))] [.var ((kC l ops ps).map .aa)] (fun r m=>r=an .i64 (gw l ps)/\∃ex,m= .var ((kC l ops ps).map .aa)::ex):=by
 refine aK (fun p=>p<=8/\p<=ps.length/\oq l ps (8-p) p=gw l ps) [0] (fun p=>[(5,an .i64 (p:Nat))]) (fun _=>[.var ((kC l ops ps).map .aa)]) (fun p=>8-p) 0 ⟨om,Wi _,rfl⟩ ?_ (fun p hp=>?_)
 .refine View.o1 1 [0] [] ?_
  .exact .pt rfl rfl (.eq rfl (by simp[kC])) (.nil _)
 obtain⟨hp8,fW,J3⟩:=hp;have hp8:p<=8:=hp8;have fW:p<=ps.length:=fW;have J3:oq l ps (8-p) p=gw l ps:=J3;refine ay (fun h=>?_) (fun h=>?_)
 .have aB:p<8:=by have h:(p:Int)<8:=h;omega
  rw[show 8-p=(8-(p+1))+1 by omega,oq]at J3
  refine bI (fun he=>?_) (fun he=>?_)
  .have he:p=ps.length:=by have he:(p:Int)=((ps.map aT.enc).length:Int):=he;rw[Nq]at he;omega
   rw[if_pos he]at J3;rw[<-J3];exact⟨rfl,_,rfl⟩
  .have fc:¬p=ps.length:=by intro hh;apply he;show(p:Int)=((ps.map aT.enc).length:Int);rw[Nq];omega
   rw[if_neg fc]at J3;have Bt:p<ps.length:=om;have Om:tT l ps p=(!ps[p].aQ&& !(l.any (cH (p:Nat)))):=by rw[tT,IE Bt]
   refine fe (args0:=[b8 l,.rv (.one (.fn 148 [0]))]) (cs:=[.val (.int .i64 (p:Nat))]) 1 rfl rfl (r0:=ax (l.any (cH (p:Int)))) rfl (fun K hK=>sB l hl 148 _ _ (fun s K hK=>V2 s _ K hK) K hK) ?_
   refine ag (dW Bt) ?_;rw[Om]at J3;have go:(!ps[p].aQ&& !(l.any (cH (p:Nat))))=false->oq l ps (8-(p+1)) (p+1)=gw l ps:=fun hh=>by
    rw[if_neg (by rw[hh];simp)]at J3;exact J3
   refine aC (fun h1=>?_) (fun h1=>?_)
   .refine aC (fun h2=>?_) (fun h2=>?_)
    .rw[if_pos (by rw[h1,h2];rfl)]at J3
     rw[<-J3];exact⟨rfl,_,rfl⟩
    .refine⟨p+1,⟨om,om,go (by rw[h2,Bool.and_false])⟩,(show 8-(p+1)<8-p by omega),View.o 2 [0] [] ?_ ?_⟩
     .repeat(first|exact .nil|refine .aq ?_|refine .put (.aO (ap om).symm) ?_|refine .eq rfl ?_)
     .exact .pt rfl rfl (.eq rfl (by simp[kC])) (.nil _)
   .refine⟨p+1,⟨om,om,go (by rw[h1,Bool.false_and])⟩,(show 8-(p+1)<8-p by omega),View.o 2 [0] [] ?_ ?_⟩
    .repeat(first|exact .nil|refine .aq ?_|refine .put (.aO (ap om).symm) ?_|refine .eq rfl ?_)
    .exact .pt rfl rfl (.eq rfl (by simp[kC])) (.nil _)
 .have hp:p=8:=by have h:¬(p:Int)<8:=h;omega
  subst hp;rw[show gw l ps= -1 from J3.symm];exact⟨rfl,_,rfl⟩
theorem zS(l:List Obj)(hl:l.length<=4194304)(ops:List bi)(ps:List aT)(K:CV->Mem->Prop)(h:K (an .i64 (gw l ps)) [.var ((kC l ops ps).map .aa)]):au Tryz.prog 125 [.rv (.one (.ptr 0 0))] [.var ((kC l ops ps).map .aa)] K:=
 eF rfl (aX Tryz.func125 l125 (sH l hl ops ps)) h
theorem l120:bx Tryz.prog Tryz.f120=some c120:=by kernel_rfl
theorem l121:bx Tryz.prog Tryz.f121=some c121:=by kernel_rfl
def bi.cv(o:bi):CV:= .rv (.agg (o.enc.map .aa))
theorem Ez(o:bi):body Tryz.prog c121 [o.cv] [] (fun r m=>r=ax (decide (o.bD<0))):=by show ax _=ax _;rfl
theorem V3(o:bi){m:Mem}{K:CV->Mem->Prop}(h:K (ax (decide (o.bD<0))) m):au Tryz.prog 121 [o.cv] m K:=
 bs Tryz.func121 l121 rfl (X5 rfl) (Ez o) rfl rfl h
def GK(l:List bi):Option Nat:=l.findIdx? fun o=>decide (o.bD<0)
def J4(l:List bi):Int:=match GK l with|some i=>(i:Nat)|none=>-1
theorem Ix(l:List bi)(hb:l.length<=4194304):body Tryz.prog c120 [.rv (.one (.aa (d5 l))),.rv (.one (.fn 121 []))] [] (fun r m=>r=an .i64 (J4 l)):=by
 refine aK (fun k=>k<=l.length/\∀(i:Nat)s,i<k->l[i]? =some s->¬s.bD<0) [0,1,7] (fun k=>[(8,an .i64 (k:Nat))]) (fun _=>[]) (fun k=>l.length-k) 0 ⟨Wi _,fun i s h=>absurd h (abb i)⟩ ?_ (fun k hk=>?_)
 .refine View.o 0 [] [] ?_ (.nil _);repeat(first|exact .nil|refine .aq ?_|refine .eq rfl ?_)
 obtain⟨fj,Sj⟩:=hk;have fj:k<=l.length:=fj;refine ay (fun h=>?_) (fun h=>?_)
 .have aB:k<l.length:=by have h:(k:Int)<((l.map bi.enc).length:Int):=h;rw[Nq]at h;omega
  refine ag (lM aB) ?_;refine V3 l[k] ?_;refine ay (fun h3=>?_) (fun h3=>?_)
  .show an _ _=an _ _;have:GK l=some k:=by
    rw[GK,abz];exact⟨aB,by simpa using h3,fun j hj=>by simpa using Sj j _ hj (IE om)⟩
   rw[J4,this]
  .refine⟨k+1,⟨aB,fun i s hi hs=>?_⟩,(show l.length-(k+1)<l.length-k by omega),View.o 0 [] [] ?_ (.nil _)⟩
   .rcases ZX i k with h5|h5
    .exact Sj i s h5 hs
    .have:i=k:=om;subst this;rw[IE aB]at hs;cases hs;exact h3
   .repeat(first|exact .nil|refine .aq ?_|refine .put (.aO (ap om).symm) ?_|refine .eq rfl ?_)
 .have ew:k=l.length:=by have h:¬(k:Int)<((l.map bi.enc).length:Int):=h;rw[Nq]at h;omega
  show an _ _=an _ _;have:GK l=none:=by rw[GK,aco];intro s hs;obtain⟨i,hi⟩:=Xf hs;have:=(Mh.1 hi).1;simpa using Sj i s om hi
  rw[J4,this]
theorem GL(l:List bi)(hb:l.length<=4194304){m:Mem}{K:CV->Mem->Prop}(h:K (an .i64 (J4 l)) m):au Tryz.prog 120 [.rv (.one (.aa (d5 l))),.rv (.one (.fn 121 []))] m K:=
 bs Tryz.func120 l120 rfl (X5 rfl) (Ix l hb) (by simp[d5,CV.dm,CC.dm,RV.dm]) rfl h
def c85:LF:= ⟨36,[.cell true 3 6,.tmp 7],(.seq (.ai [qu 3 (.box 0),qu 6 (.alloc [.aI,.aI,.aI]),qu 7 (.aH (qi 0))]) (.seq (.seq (.ai [qL 9 3 3,qm 10 1,qu 11 (qc 35 [9,10]),qu 12 (.un .not 11)]) (.cond 12 (.seq (.ai [qu 13 (.build [.aI,.aI,.aI] []),qw (.store 3 6 13),qu 7 (.aH (qi 6))]) .ret) .skip)) (.seq (.seq (.ai [qm 14 2,qu 15 (.aF .lss 14 (qi 0)),qm 16 15,qg 17 (.aH 2) 16 false,qg 18 (.aF .gtr 17 (qi 255)) 16 false,qu 19 (.pick 16 (qb true) 18)]) (.cond 19 (.seq (.ai [qu 20 (.build [.aI,.aI,.aI] []),qw (.store 3 6 20),qu 7 (.aH (qi 3))]) .ret) .skip)) (.seq (.ai [qL 21 3 3,qu 22 (qc 66 [21]),qu 8 (.alloc [.aI,.aI,.aI]),qw (.store 3 8 22)]) (.seq (.bX [qf 23 2 8,ql 24 23,qm 25 1,qf 26 2 3,ql 27 26,qm 28 1,qu 29 (.bW 4 27 28),qf 30 1 29,ql 31 30,qm 32 2,qu 33 (.build [(.aa (.val (.bool false))),(.aa (.val (.bool false))),qd 0,.aI] [(1,1,31),(2,1,32)]),qu 34 (.bW 4 24 25),qw (.store 4 34 33)] [(.cons 0 none (.cons 1 none (.cons 2 none (.cons 3 none (.cons 4 none (.cons 5 none (.cons 6 none (.cons 7 none (.cons 8 none (.cons 9 none (.cons 10 none (.cons 11 none (.cons 12 (some []) .nil)))))))))))))]) (.cu (.seq (.ai [qL 35 3 8,qw (.store 3 6 35),qu 7 (.aH (qi 0))]) .ret)))))))⟩
theorem l85:bx Tryz.prog Tryz.f85=some c85.er:=by kernel_rfl
def iM(k:Kr):RV:= .agg [.aa (cU k.l),.aa (d5 k.ops),.aa (ff k.ps)]
def m5:Kr:=⟨[],[],[]⟩
def iN(k:Kr)(p code:Int):Kr×Int:=
 if fu k.ps p=false then(m5,6)else if code<0\/code>255 then(m5,3)
 else(⟨k.l,k.ops,k.ps.set p.toNat ⟨false,(match k.ps[p.toNat]? with|some x=>x.fenced|none=>false),code,[]⟩⟩,0)
theorem gG{m:Mem}:eT m (.agg [.aI,.aI,.aI]) (iM m5):=by
 refine .agg rfl fun i c c' h1 h2=>?_
 match i,h1,h2 with
 |0,h1,h2=>cases h1;cases h2;exact .aI 9
 |1,h1,h2=>cases h1;cases h2;exact .aI 2
 |2,h1,h2=>cases h1;cases h2;exact .aI 4
 |n+3,h1,h2=>simp at h1
theorem zT(k:Kr):(iM k).dm=true:=by simp[iM,cU,d5,ff,CV.dm,CC.dm,RV.dm]
theorem L7{m:Mem}{Z:Nat->Prop}{p:Option Nat}{id:Nat}{ps:List aT}{k:Nat}{c:List CC}{x:aT}(hc:jL m Z (some id) c x.enc)(hz:Z id)(hm:m[id]? =some (.row 4 (bb (af (ps.map aT.enc)) k c))):
  dC m Z p (.row id 4 0 none) (ff (ps.set k x)):=by
 rw[bj]at hm;refine dC.row id 4 0 none _ _ hz hm (by simp[af]) (fun i cs es h1 h2=>?_) (fun i cs es j c' d h1 h2 h3 h4=>?_)
 .rw[abw]at h1;rw[Q8,abw]at h2;by_cases e:k=i
  .subst e;rw[if_pos rfl]at h1 h2;split at h1
   .cases h1;split at h2
    .cases h2;exact hc.len
    .cases h2
   .cases h1
  .rw[if_neg e]at h1 h2;rw[af,Q8,Q8]at h1;cases hi:ps[i]? with
   |none=>rw[hi]at h1;cases h1
   |some y=>rw[hi]at h1 h2;cases h1;cases h2;simp
 .rw[abw]at h1;rw[Q8,abw]at h2;by_cases e:k=i
  .subst e;rw[if_pos rfl]at h1 h2;split at h1
   .cases h1;split at h2
    .cases h2;exact hc.get j _ _ h3 h4
    .cases h2
   .cases h1
  .rw[if_neg e]at h1 h2;rw[af,Q8,Q8]at h1;cases hi:ps[i]? with
   |none=>rw[hi]at h1;cases h1
   |some y=>
    rw[hi]at h1 h2;cases h1;cases h2;have h4:y.enc[j]? =some d:=h4;rw[Q8,h4]at h3;cases h3;exact .aa d
def G15:LC:=lX (bv (bv (bv (bv (bv c85.code)))))
theorem Iy(k:Kr)(hk:dF k.l k.ops k.ps)(p code:Int):body Tryz.prog c85 [cP k.l k.ops k.ps,an .i64 p,an .i64 code] [] (fun r m=>cJ m r (.bK [iM (iN k p code).1,cS (iN k p code).2])):=by
 refine ol k.l k.ops k.ps p ?_;refine aC (fun h1=>?_) (fun h1=>?_)
 .have h1:fu k.ps p=false:=by simpa using h1
  rw[iN,if_pos h1];exact jX gG
 have h1:fu k.ps p=true:=by simpa using h1
 obtain⟨n,rfl,hn,cX⟩:=oo h1;rw[iN,if_neg (by rw[h1];simp)]
 refine ay (fun h2=>?_) (fun h2=>?_)
 .rw[if_pos (.inl h2)];exact jX gG
 refine ay (fun h3=>?_) (fun h3=>?_)
 .rw[if_pos (.inr h3)];exact jX gG
 rw[if_neg (fun h=>h.elim h2 h3)]
 refine iv k.l k.ops k.ps ⟨hk.ll,fun o ho=>(hk.sm o ho).mL⟩ hk.lo hk.lp hk.sl hk.ne ?_
 have hg:=dW hn;have hr:=bA aT.enc k.ps hn;have hx:(match k.ps[((n:Nat):Int).toNat]? with|some x=>x.fenced|none=>false)=k.ps[n].fenced:=by rw[show((n:Nat):Int).toNat=n from rfl,IE hn]
 rw[hx,show((n:Nat):Int).toNat=n from rfl];generalize k.ps[n]=y at hg hr;obtain⟨aQ,fenced,cd,aJ⟩:=y;refine ag hg ?_;refine ag (lY hn) ?_;refine ag hr ?_;have eA:aw Tryz.prog 0 G15 (mg Tryz.prog c85.kD (fun r m=>cJ m r (.bK [iM ⟨k.l,k.ops,k.ps.set n ⟨false,fenced,code,[]⟩⟩,cS 0]))) ⟨iL 36 [(6,.rv (.one (.ptr 1 0))),(8,.rv (.one (.ptr 2 0)))],[.var ((kC k.l k.ops k.ps).map .aa),.var [.aI,.aI,.aI],.var ((kC k.l k.ops (k.ps.set n ⟨false,fenced,code,[]⟩)).map .aa)]⟩:=by exact jX (eT.self (zT _))
 refine⟨?_,_,View.o 6 [0,1,5] [2,3,4] ?_ ?_,eA⟩
 .exact trivial
 .repeat(first|exact .nil|refine .aq ?_|refine .eq rfl ?_)
 .refine .pt rfl rfl (.eq rfl (by simp[kC])) (.pe rfl rfl rfl (.pt rfl rfl (eP.var (.cons (.e8 (dC.dJ (Z:=fun k=>bz [2,3,4] k=true) rfl rfl 0 none)) (.cons (.e8 (dC.dJ (Z:=fun k=>bz [2,3,4] k=true) rfl rfl 0 none)) (.cons (.e8 (L7 (Z:=fun k=>bz [2,3,4] k=true) ?_ rfl rfl)) .nil)))) (.nil _)))
  exact .cons (.aa _) (.cons (.aa _) (.cons (.aa _) (.cons (.aI 3) .nil)))
theorem zU(k:Kr)(hk:dF k.l k.ops k.ps)(p code:Int){m:Mem}{K:CV->Mem->Prop}(h:K (.bK [iM (iN k p code).1,cS (iN k p code).2]) m):au Tryz.prog 85 [cP k.l k.ops k.ps,an .i64 p,an .i64 code] m K:=
 be (cg Tryz.func85 l85 (Iy k hk p code)) (by simp[cP,cU,d5,ff,an,CV.dm,CC.dm,RV.dm]) fun r m1 hf=>⟨_,hf,h⟩
def c79:LF:= ⟨74,[.cell true 3 8,.tmp 9,.tmp 10],(.seq (.ai [qu 4 (.box 0),qu 8 (.alloc [.aI,.aI,.aI]),qu 9 (.aH (qi 0)),qu 10 (.aH (qi 0))]) (.seq (.ai [qf 16 1 4,ql 17 16,qu 18 (qc 120 [17,(.c (.rv (.one (.fn 121 []))))]),qm 11 18]) (.seq (.seq (.ai [qm 19 11,qu 20 (.aF .lss 19 (qi 0))]) (.cond 20 (.seq (.seq (.ai [qf 21 1 4,ql 22 21,qu 23 (.len 1 22),qu 24 (.aF .geq 23 (qi 60))]) (.cond 24 (.seq (.ai [qu 25 (.build [.aI,.aI,.aI] []),qw (.store 3 8 25),qu 9 (.aH (qi 0)),qu 10 (.aH (qi 15))]) .ret) .skip)) (.ai [qf 26 1 4,ql 27 26,qu 28 (.len 1 27),qm 11 28])) .skip)) (.cu (.seq (.ai [qf 30 2 4,ql 31 30,qm 32 1,qu 33 (.bW 4 31 32),qf 34 3 33,ql 35 34,qm 36 11,qm 37 3,qu 38 (.build [qd 0,qd 0] [(0,1,36),(1,1,37)]),qu 39 (qc 83 [35,38]),qm 29 39,qu 40 (.ext 29 0),qu 41 (.ext 29 1),qu 42 (.ext 29 2),qm 12 40,qm 13 41,qm 14 42]) (.seq (.seq (.ai [qm 43 14,qu 44 (.aF .neq 43 (qi 0))]) (.cond 44 (.seq (.ai [qu 45 (.build [.aI,.aI,.aI] []),qm 46 14,qw (.store 3 8 45),qu 9 (.aH (qi 0)),qm 10 46]) .ret) .skip)) (.seq (.ai [qL 47 3 4,qu 48 (qc 66 [47]),qu 15 (.alloc [.aI,.aI,.aI]),qw (.store 3 15 48)]) (.seq (.seq (.ai [qm 49 11,qf 50 1 15,ql 51 50,qu 52 (.len 1 51),qu 53 (.aF .eql 49 52)]) (.cond 53 (.ai [qf 54 1 15,ql 55 54,qu 56 (.build [qd 0,qd 0] []),qu 57 (.ln 2 [qd 0,qd 0] 1 [(0,56)]),qu 58 (.ni 2 16 55 57),qf 59 1 15,qw (.store 1 59 58)]) .skip)) (.cu (.seq (.ai [qf 60 1 15,ql 61 60,qm 62 11,qm 63 2,qu 64 (.build [qd 0,qd 0] [(0,1,63)]),qu 65 (.bW 2 61 62),qw (.store 2 65 64)]) (.seq (.ai [qf 66 2 15,ql 67 66,qm 68 1,qm 69 12,qu 70 (.bW 4 67 68),qf 71 3 70,qw (.store 1 71 69)]) (.seq (.ai [qL 72 3 15,qm 73 13,qw (.store 3 8 72),qm 9 73,qu 10 (.aH (qi 0))]) .ret))))))))))))⟩
theorem l79:bx Tryz.prog Tryz.f79=some c79.er:=by kernel_rfl
def p5(s:fz):Tb.ct:=⟨s.has,⟨s.dk,s.bZ⟩⟩
def O0(s:Tb.ct):fz:=⟨s.has,s.cap.dk,s.cap.bZ⟩
theorem O1(l:List fz):(l.map p5).map Tb.ct.enc=l.map fz.enc:=by rw[abW];rfl
theorem O4(l:List Tb.ct):(l.map O0).map fz.enc=l.map Tb.ct.enc:=by rw[abW];rfl
theorem yz(l:List fz):Tb.p4 (l.map p5)=iu l:=by rw[Tb.p4,O1];rfl
theorem o5(l:List Tb.ct):Tb.i3 l=Lr (l.map O0):=by show RV.one (.aa (.sl 3 (l.map Tb.ct.enc)))= .one (.aa (.sl 3 ((l.map O0).map fz.enc)));rw[O4]
def gH(l:List fz)(dk bZ:Int):List fz×Int×Int:=((Tb.iH (l.map p5) ⟨dk,bZ⟩).1.map O0,(Tb.iH (l.map p5) ⟨dk,bZ⟩).2.1,(Tb.iH (l.map p5) ⟨dk,bZ⟩).2.2)
theorem zV(l:List fz)(hb:l.length<=2097152)(dk bZ:Int){m:Mem}{K:CV->Mem->Prop}(h:K (.bK [Lr (gH l dk bZ).1,cS (gH l dk bZ).2.1,cS (gH l dk bZ).2.2]) m):
  au Tryz.prog 83 [kP l,.rv (.agg [.aa (.val (.int .i64 dk)),.aa (.val (.int .i64 bZ))])] m K:=by
 have:=Tb.L4 (l.map p5) (by simpa using hb) ⟨dk,bZ⟩ (m:=m) (K:=K) (by rw[o5];exact h)
 have e:Tb.eH (l.map p5)=kP l:=by show CV.rv (.one (.aa (Tb.p4 (l.map p5))))=_;rw[yz];rfl
 rw[e]at this;exact this
def ec(ops:List bi):Nat:=(GK ops).getD ops.length
def ba(ps:List aT)(n:Nat):List fz:=match ps[n]? with|some x=>x.aJ|none=>[]
def jM(ops:List bi)(i:Nat)(o:bi):List bi:=if i=ops.length then ops++ [o]else ops.set i o
def fv(ps:List aT)(n:Nat)(l:List fz):List aT:=match ps[n]? with|some x=>ps.set n {x with aJ:=l}|none=>ps
def aP(k:Kr)(n:Nat)(bD bZ:Int):Kr×Int×Int:=
 if GK k.ops=none/\k.ops.length>=60 then(m5,0,15)
 else if(gH (ba k.ps n) (ec k.ops) bZ).2.2≠0 then(m5,0,(gH (ba k.ps n) (ec k.ops) bZ).2.2)
 else(⟨k.l,jM k.ops (ec k.ops) ⟨bD,0⟩,fv k.ps n (gH (ba k.ps n) (ec k.ops) bZ).1⟩,(gH (ba k.ps n) (ec k.ops) bZ).2.1,0)
theorem EA{ops:List bi}{i:Nat}(h:GK ops=some i):i<ops.length:=(abz.1 h).1
def C30:LC:=bv (bv (bv c79.code))
def ZH:LC:=lX C30
def C60:LC:=bv (bv (bv (bv ZH)))
def G60:LC:=lX C60
def M60(l:List Obj)(O:List bi)(ps:List aT):Mem:=[.var [.aI,.aI,.aI],.row 9 (af (l.map Obj.enc)),.row 2 (af (O.map bi.enc)),.row 4 (af (ps.map aT.enc)),.var [.row 1 9 0 none,.row 2 2 0 none,.row 3 4 0 none]]
theorem V4{m:Mem}{a b c:Nat}{l:List Obj}{ops:List bi}{ps:List aT}(h1:m[a]? =some (.row 9 (af (l.map Obj.enc))))(h2:m[b]? =some (.row 2 (af (ops.map bi.enc))))(h3:m[c]? =some (.row 4 (af (ps.map aT.enc)))):
  eT m (.agg [.row a 9 0 none,.row b 2 0 none,.row c 4 0 none]) (iM ⟨l,ops,ps⟩):=by
 refine .agg rfl fun i c c' e1 e2=>?_
 match i,e1,e2 with
 |0,e1,e2=>cases e1;cases e2;exact d9.dJ h1 0 none
 |1,e1,e2=>cases e1;cases e2;exact d9.dJ h2 0 none
 |2,e1,e2=>cases e1;cases e2;exact d9.dJ h3 0 none
 |n+3,e1,e2=>simp at e1
theorem Q1(l:List Obj)(O:List bi)(ps:List aT)(n i:Nat)(hn:n<ps.length)(hi:i<O.length)(bD fd:Int)(y:List fz):
  aw Tryz.prog 0 G60 (mg Tryz.prog c79.kD (fun r m=>cJ m r (.bK [iM ⟨l,O.set i ⟨bD,0⟩,fv ps n y⟩,cS fd,cS 0])))
   ⟨iL 74 [(1,an .i64 (n:Nat)),(2,an .i64 bD),(8,.rv (.one (.ptr 0 0))),(11,an .i64 (i:Nat)),(12,kP y),(13,an .i64 fd),(15,.rv (.one (.ptr 4 0)))],M60 l O ps⟩:=by
 refine ag (zM hi) ?_;have ho:=bA bi.enc O hi;generalize O[i]=x at ho;obtain⟨xo,xa⟩:=x;refine ag ho ?_;refine ag (lY hn) ?_;have hp:=bA aT.enc ps hn;have mJ:fv ps n y=ps.set n {ps[n]with aJ:=y}:=by rw[fv,IE hn]
 rw[mJ];generalize ps[n]=z at hp;obtain⟨aQ,fenced,cd,aJ⟩:=z;refine ag hp ?_;refine lW (V4 ?_ ?_ ?_) (eT.self rfl)
 .rfl
 .refine congrArg (fun x=>some (Bk.row 2 x)) ?_
  show bb (af (O.map bi.enc)) i ((bi.enc ⟨bD,0⟩).map .aa)=_;rw[bj,af,af,abJ,abJ]
 .refine congrArg (fun x=>some (Bk.row 4 x)) ?_
  show bb (af (ps.map aT.enc)) n ((aT.enc ⟨aQ,fenced,cd,y⟩).map .aa)=_;rw[bj,af,af,abJ,abJ]
theorem Q2(k:Kr)(hk:dF k.l k.ops k.ps)(n:Nat)(hn:n<k.ps.length)(bD bZ:Int)(i:Nat)(hi:i=ec k.ops)(Qv:i<=k.ops.length)(jc:¬(GK k.ops=none/\k.ops.length>=60)):
  aw Tryz.prog 0 ZH (mg Tryz.prog c79.kD (fun r m=>cJ m r (.bK [iM (aP k n bD bZ).1,cS (aP k n bD bZ).2.1,cS (aP k n bD bZ).2.2])))
   ⟨iL 74 [(1,an .i64 (n:Nat)),(2,an .i64 bD),(3,an .i64 bZ),(4,.rv (.one (.ptr 0 0))),(8,.rv (.one (.ptr 1 0))),(11,an .i64 (i:Nat))],[.var ((kC k.l k.ops k.ps).map .aa),.var [.aI,.aI,.aI]]⟩:=by
 have GM:ba k.ps n=k.ps[n].aJ:=by rw[ba,IE hn]
 have uD:=hk.sl _ (Z0 hn);have SB:k.ops.length<=4194304:=hk.lo;rw[aP,if_neg jc,GM,<-hi];refine ag (dW hn) ?_;generalize k.ps[n].aJ=S at uD;refine zV S om (i:Nat) bZ ?_;generalize gH S (i:Nat) bZ=A;obtain⟨y,fd,e⟩:=A;refine bG (fun he=>?_) (fun he=>?_)
 .rw[if_pos he];exact lW gG (eT.self rfl)
 have he:e=0:=he;subst he;rw[if_neg aG];refine iv k.l k.ops k.ps ⟨hk.ll,fun o ho=>(hk.sm o ho).mL⟩ hk.lo hk.lp hk.sl hk.ne ?_
 refine bI (fun gX=>?_) (fun gX=>?_)
 .have gX:i=k.ops.length:=by have gX:(i:Int)=((af (k.ops.map bi.enc)).length:Int):=gX;rw[aU,Nq]at gX;omega
  have jT:jM k.ops i ⟨bD,0⟩=(k.ops++ [bi.mk 0 0]).set i ⟨bD,0⟩:=by rw[jM,if_pos gX,gX];simp
  rw[jT];refine⟨by simp only[cD,aU,Nq,aar,aby];omega,?_⟩
  refine⟨_,View.o1 8 [1,2,7,4,5] [] ?_,Q1 k.l (k.ops++ [bi.mk 0 0]) k.ps n i hn (by simp;omega) bD fd y⟩
  .exact .pe rfl rfl rfl (.pr rfl rfl rfl (.pt rfl rfl (.bM (by simp[cD,af,bi.enc])) (.pr rfl rfl rfl (.pm rfl rfl rfl))))
 .have aB:i<k.ops.length:=by have gX:¬(i:Int)=((af (k.ops.map bi.enc)).length:Int):=gX;rw[aU,Nq]at gX;omega
  have jT:jM k.ops i ⟨bD,0⟩=k.ops.set i ⟨bD,0⟩:=by rw[jM,if_neg om]
  rw[jT];refine⟨_,View.o1 6 [1,2,3,4,5] [] ?_,Q1 k.l k.ops k.ps n i hn aB bD fd y⟩
  .exact .pe rfl rfl rfl (.pr rfl rfl rfl (.pr rfl rfl rfl (.pr rfl rfl rfl (.pm rfl rfl rfl))))
theorem B9(k:Kr)(hk:dF k.l k.ops k.ps)(n:Nat)(hn:n<k.ps.length)(bD bZ:Int):body Tryz.prog c79 [cP k.l k.ops k.ps,an .i64 (n:Nat),an .i64 bD,an .i64 bZ] []
  (fun r m=>cJ m r (.bK [iM (aP k n bD bZ).1,cS (aP k n bD bZ).2.1,cS (aP k n bD bZ).2.2])):=by
 refine GL k.ops hk.lo ?_;have SB:k.ops.length<=4194304:=hk.lo;cases ho:GK k.ops with
 |none=>
  have SC:J4 k.ops= -1:=by rw[J4,ho]
  have L8:ec k.ops=k.ops.length:=by rw[ec,ho];rfl
  rw[SC];refine ay (fun vW=>?_) (fun vW=>?_)
  .have vW:k.ops.length>=60:=by have vW:((k.ops.map bi.enc).length:Int)>=60:=vW;rw[Nq]at vW;omega
   rw[aP,if_pos ⟨ho,vW⟩];exact lW gG (eT.self rfl)
  .have vW:¬k.ops.length>=60:=by have vW:¬((k.ops.map bi.enc).length:Int)>=60:=vW;rw[Nq]at vW;omega
   refine⟨_,View.o 2 [0,1] [] ?_ ?_,Q2 k hk n hn bD bZ k.ops.length L8.symm (SS _) (fun h=>vW h.2)⟩
   .have hlen:an .i64 (((k.ops.map bi.enc).length:Nat):Int)=an .i64 ((k.ops.length:Nat):Int):=by rw[Nq]
    repeat(first|exact .nil|refine .aq ?_|refine .eq rfl ?_)
    refine .eq hlen.symm ?_;repeat(first|exact .nil|refine .aq ?_|refine .eq rfl ?_)
   .exact .pt rfl rfl (.eq rfl (by simp[kC])) (.pm rfl rfl rfl)
 |some i=>
  have SC:J4 k.ops=(i:Nat):=by rw[J4,ho]
  have L8:ec k.ops=i:=by rw[ec,ho];rfl
  have Qv:=EA ho;rw[SC];refine⟨_,View.o1 2 [0,1] [] ?_,Q2 k hk n hn bD bZ i L8.symm om (fun h=>by rw[ho]at h;cases h.1)⟩
  .exact .pt rfl rfl (.eq rfl (by simp[kC])) (.pm rfl rfl rfl)
theorem sK(k:Kr)(hk:dF k.l k.ops k.ps)(n:Nat)(hn:n<k.ps.length)(bD bZ:Int){m:Mem}{K:CV->Mem->Prop}(h:K (.bK [iM (aP k n bD bZ).1,cS (aP k n bD bZ).2.1,cS (aP k n bD bZ).2.2]) m):au Tryz.prog 79 [cP k.l k.ops k.ps,an .i64 (n:Nat),an .i64 bD,an .i64 bZ] m K:=
 be (cg Tryz.func79 l79 (B9 k hk n hn bD bZ)) (by simp[cP,cU,d5,ff,an,CV.dm,CC.dm,RV.dm]) fun r m1 hf=>⟨_,hf,h⟩
end Go.Proofs.YtojhmadmlnfpcaaGreatDoor
