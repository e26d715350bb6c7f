/- Part 24 of 43: what the law stands on. -/
import Derived.Test.YtojhmadmlnfpcaaGreatDoorK16
import Derived.Test.YtojhmadmlnfpcaaGreatDoorK21
import Derived.Test.YtojhmadmlnfpcaaGreatDoorK23
set_option linter.unusedVariables false
set_option linter.unusedSimpArgs false
set_option linter.unnecessarySimpa false
set_option maxRecDepth 100000
set_option maxHeartbeats 64000000
namespace Go.Proofs.YtojhmadmlnfpcaaGreatDoor
open Go.AM Go.ChangeShapes Go.WideShapes Go.ChangeAt Go.RowKit
def c35:LF:= ⟨22,[.tmp 4],(.seq (.ai [qu 2 (.box 0),qu 4 (.aD (qb false))]) (.seq (.ai [qm 5 1,qu 6 (.aF .geq 5 (qi 0)),qm 7 6,qg 8 (.aD 1) 7 true,qg 9 (.bg 2 2) 7 true,qg 10 (.load false 1 9) 7 true,qg 11 (.len 1 10) 7 true,qg 12 (.aF .lss 8 11) 7 true,qu 13 (.pick 7 12 (qb false)),qm 14 13,qg 15 (.bg 2 2) 14 true,qg 16 (.load false 1 15) 14 true,qg 17 (.aD 1) 14 true,qg 18 (.bO 4 16 17) 14 true,qg 19 (.bg 0 18) 14 true,qg 20 (.load false 1 19) 14 true,qu 21 (.pick 14 20 (qb false)),qm 4 21]) .ret))⟩
def c120:LF:= ⟨19,[.tmp 4],(.seq (.ai [qu 4 (.aD (qi 0))]) (.seq (.seq (.ai [qm 6 0,qu 7 (.len 1 6),qu 8 (.aD (qi 0))]) (.block 0 (.loop (.seq (.ai [qu 9 (.aF .lss 8 7)]) (.seq (.cond 9 .skip (.exit 0)) (.seq (.block 1 (.seq (.ai [qm 10 8,qm 5 10]) (.seq (.ai [qm 11 1,qm 12 0,qm 13 5,qu 14 (.bO 2 12 13),qL 15 2 14,qu 16 (.call 11 [15])]) (.cond 16 (.seq (.ai [qm 17 5,qm 4 17]) .ret) .skip)))) (.ai [qu 18 (.aF .add 8 (qi 1)),qm 8 18]))))))) (.seq (.ai [qu 4 (.aD (qi (-1)))]) .ret)))⟩
def c121:LF:= ⟨6,[.tmp 2],(.seq (.ai [qu 1 (.box 0),qu 2 (.aD (qb false))]) (.seq (.ai [qf 3 0 1,ql 4 3,qu 5 (.aF .lss 4 (qi 0)),qm 2 5]) .ret))⟩
def c125:LF:= ⟨37,[.tmp 2],(.seq (.ai [qu 2 (.aD (qi 0))]) (.seq (.seq (.ai [qu 5 (.aD (qi 0))]) (.block 0 (.loop (.seq (.ai [qu 6 (.aF .lss 5 (qi 8))]) (.seq (.cond 6 .skip (.exit 0)) (.seq (.block 1 (.seq (.ai [qm 7 5,qu 3 (.alloc [(qd 0)]),qw (.store 1 3 7)]) (.seq (.seq (.bQ [ql 8 3,qm 9 0,qu 10 (.aW 9),qf 11 2 10,ql 12 11,qu 13 (.len 1 12),qu 14 (.aF .eql 8 13)] [(.cons 0 none (.cons 1 none (.cons 2 none (.cons 3 none (.cons 4 none (.cons 5 none (.cons 6 none .nil)))))))]) (.cond 14 (.seq (.ai [ql 15 3,qm 2 15]) .ret) .skip)) (.seq (.ai [qm 16 0,qu 17 (.aW 16),qf 18 0 17,ql 19 18,qu 20 (.fn 148 [3]),qu 21 (qc 87 [19,20]),qm 4 21]) (.seq (.bQ [qm 22 0,qu 23 (.aW 22),qf 24 2 23,ql 25 24,ql 26 3,qu 27 (.bO 4 25 26),qf 28 0 27,ql 29 28,qu 30 (.un .not 29),qm 31 30,qg 32 (.aD 4) 31 true,qg 33 (.un .not 32) 31 true,qu 34 (.pick 31 33 (qb false))] [(.cons 0 none (.cons 1 none (.cons 2 none (.cons 3 none (.cons 4 none (.cons 5 none (.cons 6 none (.cons 7 none (.cons 8 none (.cons 9 none (.cons 10 none (.cons 11 none (.cons 12 none .nil)))))))))))))]) (.cond 34 (.seq (.ai [ql 35 3,qm 2 35]) .ret) .skip)))))) (.ai [qu 36 (.aF .add 5 (qi 1)),qm 5 36]))))))) (.seq (.ai [qu 2 (.aD (qi (-1)))]) .ret)))⟩
def c148:LF:= ⟨13,[.tmp 3],(.seq (.ai [qu 2 (.box 0),qu 3 (.aD (qb false))]) (.seq (.ai [qf 4 0 2,ql 5 4,qu 6 (.aF .eql 5 (qi 5)),qm 7 6,qg 8 (.bg 6 2) 7 true,qg 9 (.load false 1 8) 7 true,qg 10 (.load false 1 1) 7 true,qg 11 (.aF .eql 9 10) 7 true,qu 12 (.pick 7 11 (qb false)),qm 3 12]) .ret))⟩
theorem l35:bs Tryz.prog Tryz.f35=some c35:=by kernel_rfl
def ek(ps:List bi)(p:Int):Bool:=decide (p>=0)&&(decide (p<ps.length)&&match ps[p.toNat]? with|some x=>x.aV|none=>false)
theorem Fc(l:List Obj)(ops:List bG)(ps:List bi)(p:Int):body Tryz.prog c35 [dJ l ops ps,an .i64 p] [] (fun r m=>r=ay (ek ps p)):=by
 refine aB (fun h0=>?_) (fun h0=>?_)
 .obtain⟨n,rfl⟩:∃n:Nat,p=n:=⟨p.toNat,om⟩;refine aB (fun h=>?_) (fun h=>?_)
  .have aC:n<ps.length:=by have h:(n:Int)<((ps.map bi.enc).length:Int):=h;rw[aad]at h;omega
   refine ag (d5 aC) ?_;have hS:ek ps (n:Int)=ps[n].aV:=by simp[ek,aC]
   show ay _=ay _;rw[hS]
  .have ei:¬n<ps.length:=by have h:¬(n:Int)<((ps.map bi.enc).length:Int):=h;rw[aad]at h;omega
   have hS:ek ps (n:Int)=false:=by simp[ek,ei]
   show ay _=ay _;rw[hS]
 .have hS:ek ps p=false:=by have:decide (p>=0)=false:=decide_eq_false h0;simp[ek,this]
  show ay _=ay _;rw[hS]
theorem ol(l:List Obj)(ops:List bG)(ps:List bi)(p:Int){m:Mem}{K:CV->Mem->Prop}(h:K (ay (ek ps p)) m):ar Tryz.prog 35 [dJ l ops ps,an .i64 p] m K:=
 bm Tryz.func35 l35 rfl (aak rfl) (Fc l ops ps p) (by simp[dJ,cX,eA,fC,an,CV.dx,CC.dx,RV.dx]) rfl h
theorem oo{ps:List bi}{p:Int}(h:ek ps p=true):∃n:Nat,p=n/\∃hn:n<ps.length,ps[n].aV=true:=by
 unfold ek at h;by_cases h0:p>=0
 .obtain⟨n,rfl⟩:∃n:Nat,p=n:=⟨p.toNat,om⟩;by_cases hn:n<ps.length
  .refine⟨n,rfl,hn,?_⟩;simpa[hn]using h
  .simp[hn]at h
 .simp[h0]at h
theorem Pc{ps:List bi}{n:Nat}(hn:n<ps.length)(h:ps[n].aV=true):ek ps (n:Int)=true:=by simp[ek,hn,h]
theorem l125:bs Tryz.prog Tryz.f125=some c125:=by kernel_rfl
theorem l148:bs Tryz.prog Tryz.f148=some c148:=by kernel_rfl
theorem Fd(o:Obj)(p:Int):body Tryz.prog c148 [o.cv,.rv (.one (.ptr 0 0))] [.var ([Dt.val (.int .i64 p)].map .aa)] (fun r m=>r=ay (dL p o)/\∃ex,m= .var ([Dt.val (.int .i64 p)].map .aa)::ex):=by
 refine aE (fun h=>?_) (fun h=>?_)
 .refine⟨?_,_,rfl⟩;show ay _=ay _;rw[dL,h];rfl
 .refine⟨?_,_,rfl⟩;show ay _=ay _;rw[dL,h];rfl
theorem Vk(o:Obj)(p:Int)(K:CV->Mem->Prop)(h:K (ay (dL p o)) [.var ([Dt.val (.int .i64 p)].map .aa)]):ar Tryz.prog 148 [o.cv,.rv (.one (.ptr 0 0))] [.var ([Dt.val (.int .i64 p)].map .aa)] K:=
 eJ rfl (aZ Tryz.func148 l148 (Fd o p)) h
def po(l:List Obj)(ps:List bi)(p:Nat):Bool:=match ps[p]? with
 |some x=>!x.aV&& !(l.any (dL (p:Nat)))
 |none=>false
def oq(l:List Obj)(ps:List bi):Nat->Nat->Int
 |0,_=>-1
 |n+1,p=>if p=ps.length then(p:Nat)else if po l ps p=true then(p:Nat)else oq l ps n (p+1)
def gw(l:List Obj)(ps:List bi):Int:=oq l ps 8 0
def kC(l:List Obj)(ops:List bG)(ps:List bi):List Dt:=[cX l,eA ops,fC ps]
theorem sK(l:List Obj)(hl:l.length<=4194304)(ops:List bG)(ps:List bi):body Tryz.prog c125 [.rv (.one (.ptr 0 0))] [.var ((kC l ops ps).map .aa)] (fun r m=>r=an .i64 (gw l ps)/\∃ex,m= .var ((kC l ops ps).map .aa)::ex):=by
 refine aO (fun p=>p<=8/\p<=ps.length/\oq l ps (8-p) p=gw l ps) [0] (fun p=>[(5,an .i64 (p:Nat))]) (fun _=>[.var ((kC l ops ps).map .aa)]) (fun p=>8-p) 0 ⟨om,aao _,rfl⟩ ?_ (fun p hp=>?_)
 .refine View.o1 1 [0] [] ?_
  .exact .pt rfl rfl (.eq rfl (by simp[kC])) (.nil _)
 obtain⟨hp8,gE,uV⟩:=hp;have hp8:p<=8:=hp8;have gE:p<=ps.length:=gE;have uV:oq l ps (8-p) p=gw l ps:=uV;refine aB (fun h=>?_) (fun h=>?_)
 .have aC:p<8:=by have h:(p:Int)<8:=h;omega
  rw[show 8-p=(8-(p+1))+1 by omega,oq]at uV
  refine bH (fun he=>?_) (fun he=>?_)
  .have he:p=ps.length:=by have he:(p:Int)=((ps.map bi.enc).length:Int):=he;rw[aad]at he;omega
   rw[if_pos he]at uV;rw[<-uV];exact⟨rfl,_,rfl⟩
  .have eW:¬p=ps.length:=by intro hh;apply he;show(p:Int)=((ps.map bi.enc).length:Int);rw[aad];omega
   rw[if_neg eW]at uV;have BX:p<ps.length:=om;have OB:po l ps p=(!ps[p].aV&& !(l.any (dL (p:Nat)))):=by rw[po,aab BX]
   refine fb (args0:=[cg l,.rv (.one (.fn 148 [0]))]) (cs:=[.val (.int .i64 (p:Nat))]) 1 rfl rfl (r0:=ay (l.any (dL (p:Int)))) rfl (fun K hK=>sF l hl 148 _ _ (fun s K hK=>Vk s _ K hK) K hK) ?_
   refine ag (d5 BX) ?_;rw[OB]at uV;have go:(!ps[p].aV&& !(l.any (dL (p:Nat))))=false->oq l ps (8-(p+1)) (p+1)=gw l ps:=fun hh=>by
    rw[if_neg (by rw[hh];simp)]at uV;exact uV
   refine aE (fun h1=>?_) (fun h1=>?_)
   .refine aE (fun h2=>?_) (fun h2=>?_)
    .rw[if_pos (by rw[h1,h2];rfl)]at uV
     rw[<-uV];exact⟨rfl,_,rfl⟩
    .refine⟨p+1,⟨om,om,go (by rw[h2,Bool.and_false])⟩,(show 8-(p+1)<8-p by omega),View.o 2 [0] [] ?_ ?_⟩
     .repeat(first|exact .nil|refine .ap ?_|refine .put (.aQ (aq om).symm) ?_|refine .eq rfl ?_)
     .exact .pt rfl rfl (.eq rfl (by simp[kC])) (.nil _)
   .refine⟨p+1,⟨om,om,go (by rw[h1,Bool.false_and])⟩,(show 8-(p+1)<8-p by omega),View.o 2 [0] [] ?_ ?_⟩
    .repeat(first|exact .nil|refine .ap ?_|refine .put (.aQ (aq om).symm) ?_|refine .eq rfl ?_)
    .exact .pt rfl rfl (.eq rfl (by simp[kC])) (.nil _)
 .have hp:p=8:=by have h:¬(p:Int)<8:=h;omega
  subst hp;rw[show gw l ps= -1 from uV.symm];exact⟨rfl,_,rfl⟩
theorem Aj(l:List Obj)(hl:l.length<=4194304)(ops:List bG)(ps:List bi)(K:CV->Mem->Prop)(h:K (an .i64 (gw l ps)) [.var ((kC l ops ps).map .aa)]):ar Tryz.prog 125 [.rv (.one (.ptr 0 0))] [.var ((kC l ops ps).map .aa)] K:=
 eJ rfl (aZ Tryz.func125 l125 (sK l hl ops ps)) h
theorem l120:bs Tryz.prog Tryz.f120=some c120:=by kernel_rfl
theorem l121:bs Tryz.prog Tryz.f121=some c121:=by kernel_rfl
def bG.cv(o:bG):CV:= .rv (.agg (o.enc.map .aa))
theorem Fe(o:bG):body Tryz.prog c121 [o.cv] [] (fun r m=>r=ay (decide (o.bv<0))):=by show ay _=ay _;rfl
theorem Vl(o:bG){m:Mem}{K:CV->Mem->Prop}(h:K (ay (decide (o.bv<0))) m):ar Tryz.prog 121 [o.cv] m K:=
 bm Tryz.func121 l121 rfl (aak rfl) (Fe o) rfl rfl h
def DI(l:List bG):Option Nat:=l.findIdx? fun o=>decide (o.bv<0)
def Ko(l:List bG):Int:=match DI l with|some i=>(i:Nat)|none=>-1
theorem I3(l:List bG)(hb:l.length<=4194304):body Tryz.prog c120 [.rv (.one (.aa (eA l))),.rv (.one (.fn 121 []))] [] (fun r m=>r=an .i64 (Ko l)):=by
 refine aO (fun k=>k<=l.length/\∀(i:Nat)s,i<k->l[i]? =some s->¬s.bv<0) [0,1,7] (fun k=>[(8,an .i64 (k:Nat))]) (fun _=>[]) (fun k=>l.length-k) 0 ⟨aao _,fun i s h=>absurd h (aaL i)⟩ ?_ (fun k hk=>?_)
 .refine View.o 0 [] [] ?_ (.nil _);repeat(first|exact .nil|refine .ap ?_|refine .eq rfl ?_)
 obtain⟨fP,W5⟩:=hk;have fP:k<=l.length:=fP;refine aB (fun h=>?_) (fun h=>?_)
 .have aC:k<l.length:=by have h:(k:Int)<((l.map bG.enc).length:Int):=h;rw[aad]at h;omega
  refine ag (oR aC) ?_;refine Vl l[k] ?_;refine aB (fun h3=>?_) (fun h3=>?_)
  .show an _ _=an _ _;have:DI l=some k:=by
    rw[DI,aaN];exact⟨aC,by simpa using h3,fun j hj=>by simpa using W5 j _ hj (aab om)⟩
   rw[Ko,this]
  .refine⟨k+1,⟨aC,fun i s hi hs=>?_⟩,(show l.length-(k+1)<l.length-k by omega),View.o 0 [] [] ?_ (.nil _)⟩
   .rcases aaq i k with h5|h5
    .exact W5 i s h5 hs
    .have:i=k:=om;subst this;rw[aab aC]at hs;cases hs;exact h3
   .repeat(first|exact .nil|refine .ap ?_|refine .put (.aQ (aq om).symm) ?_|refine .eq rfl ?_)
 .have ei:k=l.length:=by have h:¬(k:Int)<((l.map bG.enc).length:Int):=h;rw[aad]at h;omega
  show an _ _=an _ _;have:DI l=none:=by rw[DI,abM];intro s hs;obtain⟨i,hi⟩:=aam hs;have:=(aac.1 hi).1;simpa using W5 i s om hi
  rw[Ko,this]
theorem Hm(l:List bG)(hb:l.length<=4194304){m:Mem}{K:CV->Mem->Prop}(h:K (an .i64 (Ko l)) m):ar Tryz.prog 120 [.rv (.one (.aa (eA l))),.rv (.one (.fn 121 []))] m K:=
 bm Tryz.func120 l120 rfl (aak rfl) (I3 l hb) (by simp[eA,CV.dx,CC.dx,RV.dx]) rfl h
def c85:LF:= ⟨36,[.cell true 3 6,.tmp 7],(.seq (.ai [qu 3 (.box 0),qu 6 (.alloc [.aI,.aI,.aI]),qu 7 (.aD (qi 0))]) (.seq (.seq (.ai [qL 9 3 3,qm 10 1,qu 11 (qc 35 [9,10]),qu 12 (.un .not 11)]) (.cond 12 (.seq (.ai [qu 13 (.build [.aI,.aI,.aI] []),qw (.store 3 6 13),qu 7 (.aD (qi 6))]) .ret) .skip)) (.seq (.seq (.ai [qm 14 2,qu 15 (.aF .lss 14 (qi 0)),qm 16 15,qg 17 (.aD 2) 16 false,qg 18 (.aF .gtr 17 (qi 255)) 16 false,qu 19 (.pick 16 (qb true) 18)]) (.cond 19 (.seq (.ai [qu 20 (.build [.aI,.aI,.aI] []),qw (.store 3 6 20),qu 7 (.aD (qi 3))]) .ret) .skip)) (.seq (.ai [qL 21 3 3,qu 22 (qc 66 [21]),qu 8 (.alloc [.aI,.aI,.aI]),qw (.store 3 8 22)]) (.seq (.bQ [qf 23 2 8,ql 24 23,qm 25 1,qf 26 2 3,ql 27 26,qm 28 1,qu 29 (.bO 4 27 28),qf 30 1 29,ql 31 30,qm 32 2,qu 33 (.build [(.aa (.val (.bool false))),(.aa (.val (.bool false))),(qd 0),.aI] [(1,1,31),(2,1,32)]),qu 34 (.bO 4 24 25),qw (.store 4 34 33)] [(.cons 0 none (.cons 1 none (.cons 2 none (.cons 3 none (.cons 4 none (.cons 5 none (.cons 6 none (.cons 7 none (.cons 8 none (.cons 9 none (.cons 10 none (.cons 11 none (.cons 12 (some []) .nil)))))))))))))]) (.cO (.seq (.ai [qL 35 3 8,qw (.store 3 6 35),qu 7 (.aD (qi 0))]) .ret)))))))⟩
theorem l85:bs Tryz.prog Tryz.f85=some c85.er:=by kernel_rfl
def iQ(k:Kr):RV:= .agg [.aa (cX k.l),.aa (eA k.ops),.aa (fC k.ps)]
def m9:Kr:=⟨[],[],[]⟩
def gJ(k:Kr)(p code:Int):Kr×Int:=
 if ek k.ps p=false then(m9,6)else if code<0\/code>255 then(m9,3)
 else(⟨k.l,k.ops,k.ps.set p.toNat ⟨false,(match k.ps[p.toNat]? with|some x=>x.fenced|none=>false),code,[]⟩⟩,0)
theorem gK{m:Mem}:eP m (.agg [.aI,.aI,.aI]) (iQ m9):=by
 refine .agg rfl fun i c c' h1 h2=>?_
 match i,h1,h2 with
 |0,h1,h2=>cases h1;cases h2;exact .aI 9
 |1,h1,h2=>cases h1;cases h2;exact .aI 2
 |2,h1,h2=>cases h1;cases h2;exact .aI 4
 |n+3,h1,h2=>simp at h1
theorem Ak(k:Kr):(iQ k).dx=true:=by simp[iQ,cX,eA,fC,CV.dx,CC.dx,RV.dx]
theorem Mq{m:Mem}{Z:Nat->Prop}{p:Option Nat}{id:Nat}{ps:List bi}{k:Nat}{c:List CC}{x:bi}(hc:jO m Z (some id) c x.enc)(hz:Z id)(hm:m[id]? =some (.row 4 (ba (af (ps.map bi.enc)) k c))):
  dP m Z p (.row id 4 0 none) (fC (ps.set k x)):=by
 rw[bn]at hm;refine dP.row id 4 0 none _ _ hz hm (by simp[af]) (fun i cs es h1 h2=>?_) (fun i cs es j c' d h1 h2 h3 h4=>?_)
 .rw[aaQ]at h1;rw[aaf,aaQ]at h2;by_cases e:k=i
  .subst e;rw[if_pos rfl]at h1 h2;split at h1
   .cases h1;split at h2
    .cases h2;exact hc.len
    .cases h2
   .cases h1
  .rw[if_neg e]at h1 h2;rw[af,aaf,aaf]at h1;cases hi:ps[i]? with
   |none=>rw[hi]at h1;cases h1
   |some y=>rw[hi]at h1 h2;cases h1;cases h2;simp
 .rw[aaQ]at h1;rw[aaf,aaQ]at h2;by_cases e:k=i
  .subst e;rw[if_pos rfl]at h1 h2;split at h1
   .cases h1;split at h2
    .cases h2;exact hc.get j _ _ h3 h4
    .cases h2
   .cases h1
  .rw[if_neg e]at h1 h2;rw[af,aaf,aaf]at h1;cases hi:ps[i]? with
   |none=>rw[hi]at h1;cases h1
   |some y=>
    rw[hi]at h1 h2;cases h1;cases h2;have h4:y.enc[j]? =some d:=h4;rw[aaf,h4]at h3;cases h3;exact .aa d
def G15:LC:=pj (bK (bK (bK (bK (bK c85.code)))))
theorem I4(k:Kr)(hk:dE k.l k.ops k.ps)(p code:Int):body Tryz.prog c85 [dJ k.l k.ops k.ps,an .i64 p,an .i64 code] [] (fun r m=>cJ m r (.bF [iQ (gJ k p code).1,cH (gJ k p code).2])):=by
 refine ol k.l k.ops k.ps p ?_;refine aE (fun h1=>?_) (fun h1=>?_)
 .have h1:ek k.ps p=false:=by simpa using h1
  rw[gJ,if_pos h1];exact j0 gK
 have h1:ek k.ps p=true:=by simpa using h1
 obtain⟨n,rfl,hn,dh⟩:=oo h1;rw[gJ,if_neg (by rw[h1];simp)]
 refine aB (fun h2=>?_) (fun h2=>?_)
 .rw[if_pos (.inl h2)];exact j0 gK
 refine aB (fun h3=>?_) (fun h3=>?_)
 .rw[if_pos (.inr h3)];exact j0 gK
 rw[if_neg (fun h=>h.elim h2 h3)]
 refine ix k.l k.ops k.ps ⟨hk.ll,fun o ho=>(hk.sm o ho).mP⟩ hk.lo hk.lp hk.sl hk.ne ?_
 have hg:=d5 hn;have hr:=bI bi.enc k.ps hn;have hx:(match k.ps[((n:Nat):Int).toNat]? with|some x=>x.fenced|none=>false)=k.ps[n].fenced:=by rw[show((n:Nat):Int).toNat=n from rfl,aab hn]
 rw[hx,show((n:Nat):Int).toNat=n from rfl];generalize k.ps[n]=y at hg hr;obtain⟨aV,fenced,cd,aU⟩:=y;refine ag hg ?_;refine ag (lY hn) ?_;refine ag hr ?_;have eO:aw Tryz.prog 0 G15 (nG Tryz.prog c85.lj (fun r m=>cJ m r (.bF [iQ ⟨k.l,k.ops,k.ps.set n ⟨false,fenced,code,[]⟩⟩,cH 0]))) ⟨mg 36 [(6,.rv (.one (.ptr 1 0))),(8,.rv (.one (.ptr 2 0)))],[.var ((kC k.l k.ops k.ps).map .aa),.var [.aI,.aI,.aI],.var ((kC k.l k.ops (k.ps.set n ⟨false,fenced,code,[]⟩)).map .aa)]⟩:=by exact j0 (eP.self (Ak _))
 refine⟨?_,_,View.o 6 [0,1,5] [2,3,4] ?_ ?_,eO⟩
 .exact trivial
 .repeat(first|exact .nil|refine .ap ?_|refine .eq rfl ?_)
 .refine .pt rfl rfl (.eq rfl (by simp[kC])) (.pe rfl rfl rfl (.pt rfl rfl (e7.var (.cons (.fv (dP.eE (Z:=fun k=>bq [2,3,4] k=true) rfl rfl 0 none)) (.cons (.fv (dP.eE (Z:=fun k=>bq [2,3,4] k=true) rfl rfl 0 none)) (.cons (.fv (Mq (Z:=fun k=>bq [2,3,4] k=true) ?_ rfl rfl)) .nil)))) (.nil _)))
  exact .cons (.aa _) (.cons (.aa _) (.cons (.aa _) (.cons (.aI 3) .nil)))
theorem Al(k:Kr)(hk:dE k.l k.ops k.ps)(p code:Int){m:Mem}{K:CV->Mem->Prop}(h:K (.bF [iQ (gJ k p code).1,cH (gJ k p code).2]) m):ar Tryz.prog 85 [dJ k.l k.ops k.ps,an .i64 p,an .i64 code] m K:=
 bb (cm Tryz.func85 l85 (I4 k hk p code)) (by simp[dJ,cX,eA,fC,an,CV.dx,CC.dx,RV.dx]) fun r m1 hf=>⟨_,hf,h⟩
def c79:LF:= ⟨74,[.cell true 3 8,.tmp 9,.tmp 10],(.seq (.ai [qu 4 (.box 0),qu 8 (.alloc [.aI,.aI,.aI]),qu 9 (.aD (qi 0)),qu 10 (.aD (qi 0))]) (.seq (.ai [qf 16 1 4,ql 17 16,qu 18 (qc 120 [17,(.c (.rv (.one (.fn 121 []))))]),qm 11 18]) (.seq (.seq (.ai [qm 19 11,qu 20 (.aF .lss 19 (qi 0))]) (.cond 20 (.seq (.seq (.ai [qf 21 1 4,ql 22 21,qu 23 (.len 1 22),qu 24 (.aF .geq 23 (qi 60))]) (.cond 24 (.seq (.ai [qu 25 (.build [.aI,.aI,.aI] []),qw (.store 3 8 25),qu 9 (.aD (qi 0)),qu 10 (.aD (qi 15))]) .ret) .skip)) (.ai [qf 26 1 4,ql 27 26,qu 28 (.len 1 27),qm 11 28])) .skip)) (.cO (.seq (.ai [qf 30 2 4,ql 31 30,qm 32 1,qu 33 (.bO 4 31 32),qf 34 3 33,ql 35 34,qm 36 11,qm 37 3,qu 38 (.build [(qd 0),(qd 0)] [(0,1,36),(1,1,37)]),qu 39 (qc 83 [35,38]),qm 29 39,qu 40 (.ext 29 0),qu 41 (.ext 29 1),qu 42 (.ext 29 2),qm 12 40,qm 13 41,qm 14 42]) (.seq (.seq (.ai [qm 43 14,qu 44 (.aF .neq 43 (qi 0))]) (.cond 44 (.seq (.ai [qu 45 (.build [.aI,.aI,.aI] []),qm 46 14,qw (.store 3 8 45),qu 9 (.aD (qi 0)),qm 10 46]) .ret) .skip)) (.seq (.ai [qL 47 3 4,qu 48 (qc 66 [47]),qu 15 (.alloc [.aI,.aI,.aI]),qw (.store 3 15 48)]) (.seq (.seq (.ai [qm 49 11,qf 50 1 15,ql 51 50,qu 52 (.len 1 51),qu 53 (.aF .eql 49 52)]) (.cond 53 (.ai [qf 54 1 15,ql 55 54,qu 56 (.build [(qd 0),(qd 0)] []),qu 57 (.mh 2 [(qd 0),(qd 0)] 1 [(0,56)]),qu 58 (.nO 2 16 55 57),qf 59 1 15,qw (.store 1 59 58)]) .skip)) (.cO (.seq (.ai [qf 60 1 15,ql 61 60,qm 62 11,qm 63 2,qu 64 (.build [(qd 0),(qd 0)] [(0,1,63)]),qu 65 (.bO 2 61 62),qw (.store 2 65 64)]) (.seq (.ai [qf 66 2 15,ql 67 66,qm 68 1,qm 69 12,qu 70 (.bO 4 67 68),qf 71 3 70,qw (.store 1 71 69)]) (.seq (.ai [qL 72 3 15,qm 73 13,qw (.store 3 8 72),qm 9 73,qu 10 (.aD (qi 0))]) .ret))))))))))))⟩
theorem l79:bs Tryz.prog Tryz.f79=some c79.er:=by kernel_rfl
def lh(s:fH):Tb.bZ:=⟨s.has,⟨s.eT,s.cf⟩⟩
def Pd(s:Tb.bZ):fH:=⟨s.has,s.cap.eT,s.cap.cf⟩
theorem Pe(l:List fH):(l.map lh).map Tb.bZ.enc=l.map fH.enc:=by rw[abd];rfl
theorem Pf(l:List Tb.bZ):(l.map Pd).map fH.enc=l.map Tb.bZ.enc:=by rw[abd];rfl
theorem y2(l:List fH):Tb.pS (l.map lh)=xZ l:=by rw[Tb.pS,Pe];rfl
theorem oT(l:List Tb.bZ):Tb.ja l=LQ (l.map Pd):=by show RV.one (.aa (.sl 3 (l.map Tb.bZ.enc)))= .one (.aa (.sl 3 ((l.map Pd).map fH.enc)));rw[Pf]
def fL(l:List fH)(eT cf:Int):List fH×Int×Int:=((Tb.iz (l.map lh) ⟨eT,cf⟩).1.map Pd,(Tb.iz (l.map lh) ⟨eT,cf⟩).2.1,(Tb.iz (l.map lh) ⟨eT,cf⟩).2.2)
theorem Am(l:List fH)(hb:l.length<=2097152)(eT cf:Int){m:Mem}{K:CV->Mem->Prop}(h:K (.bF [LQ (fL l eT cf).1,cH (fL l eT cf).2.1,cH (fL l eT cf).2.2]) m):
  ar Tryz.prog 83 [j7 l,.rv (.agg [.aa (.val (.int .i64 eT)),.aa (.val (.int .i64 cf))])] m K:=by
 have:=Tb.Mn (l.map lh) (by simpa using hb) ⟨eT,cf⟩ (m:=m) (K:=K) (by rw[oT];exact h)
 have e:Tb.ef (l.map lh)=j7 l:=by show CV.rv (.one (.aa (Tb.pS (l.map lh))))=_;rw[y2];rfl
 rw[e]at this;exact this
def cY(ops:List bG):Nat:=(DI ops).getD ops.length
def aT(ps:List bi)(n:Nat):List fH:=match ps[n]? with|some x=>x.aU|none=>[]
def iR(ops:List bG)(i:Nat)(o:bG):List bG:=if i=ops.length then ops++ [o]else ops.set i o
def dM(ps:List bi)(n:Nat)(l:List fH):List bi:=match ps[n]? with|some x=>ps.set n {x with aU:=l}|none=>ps
def aM(k:Kr)(n:Nat)(bv cf:Int):Kr×Int×Int:=
 if DI k.ops=none/\k.ops.length>=60 then(m9,0,15)
 else if(fL (aT k.ps n) (cY k.ops) cf).2.2≠0 then(m9,0,(fL (aT k.ps n) (cY k.ops) cf).2.2)
 else(⟨k.l,iR k.ops (cY k.ops) ⟨bv,0⟩,dM k.ps n (fL (aT k.ps n) (cY k.ops) cf).1⟩,(fL (aT k.ps n) (cY k.ops) cf).2.1,0)
theorem Ao{ops:List bG}{i:Nat}(h:DI ops=some i):i<ops.length:=(aaN.1 h).1
def C30:LC:=bK (bK (bK c79.code))
def YV:LC:=pj C30
def C60:LC:=bK (bK (bK (bK YV)))
def G60:LC:=pj C60
def M60(l:List Obj)(O:List bG)(ps:List bi):Mem:=[.var [.aI,.aI,.aI],.row 9 (af (l.map Obj.enc)),.row 2 (af (O.map bG.enc)),.row 4 (af (ps.map bi.enc)),.var [.row 1 9 0 none,.row 2 2 0 none,.row 3 4 0 none]]
theorem Vm{m:Mem}{a b c:Nat}{l:List Obj}{ops:List bG}{ps:List bi}(h1:m[a]? =some (.row 9 (af (l.map Obj.enc))))(h2:m[b]? =some (.row 2 (af (ops.map bG.enc))))(h3:m[c]? =some (.row 4 (af (ps.map bi.enc)))):
  eP m (.agg [.row a 9 0 none,.row b 2 0 none,.row c 4 0 none]) (iQ ⟨l,ops,ps⟩):=by
 refine .agg rfl fun i c c' e1 e2=>?_
 match i,e1,e2 with
 |0,e1,e2=>cases e1;cases e2;exact eI.eE h1 0 none
 |1,e1,e2=>cases e1;cases e2;exact eI.eE h2 0 none
 |2,e1,e2=>cases e1;cases e2;exact eI.eE h3 0 none
 |n+3,e1,e2=>simp at e1
theorem QY(l:List Obj)(O:List bG)(ps:List bi)(n i:Nat)(hn:n<ps.length)(hi:i<O.length)(bv fd:Int)(y:List fH):
  aw Tryz.prog 0 G60 (nG Tryz.prog c79.lj (fun r m=>cJ m r (.bF [iQ ⟨l,O.set i ⟨bv,0⟩,dM ps n y⟩,cH fd,cH 0])))
   ⟨mg 74 [(1,an .i64 (n:Nat)),(2,an .i64 bv),(8,.rv (.one (.ptr 0 0))),(11,an .i64 (i:Nat)),(12,j7 y),(13,an .i64 fd),(15,.rv (.one (.ptr 4 0)))],M60 l O ps⟩:=by
 refine ag (Ad hi) ?_;have ho:=bI bG.enc O hi;generalize O[i]=x at ho;obtain⟨xo,xa⟩:=x;refine ag ho ?_;refine ag (lY hn) ?_;have hp:=bI bi.enc ps hn;have qq:dM ps n y=ps.set n {ps[n]with aU:=y}:=by rw[dM,aab hn]
 rw[qq];generalize ps[n]=z at hp;obtain⟨aV,fenced,cd,aU⟩:=z;refine ag hp ?_;refine lX (Vm ?_ ?_ ?_) (eP.self rfl)
 .rfl
 .refine congrArg (fun x=>some (Bk.row 2 x)) ?_
  show ba (af (O.map bG.enc)) i ((bG.enc ⟨bv,0⟩).map .aa)=_;rw[bn,af,af,aa6,aa6]
 .refine congrArg (fun x=>some (Bk.row 4 x)) ?_
  show ba (af (ps.map bi.enc)) n ((bi.enc ⟨aV,fenced,cd,y⟩).map .aa)=_;rw[bn,af,af,aa6,aa6]
theorem QZ(k:Kr)(hk:dE k.l k.ops k.ps)(n:Nat)(hn:n<k.ps.length)(bv cf:Int)(i:Nat)(hi:i=cY k.ops)(Qq:i<=k.ops.length)(jC:¬(DI k.ops=none/\k.ops.length>=60)):
  aw Tryz.prog 0 YV (nG Tryz.prog c79.lj (fun r m=>cJ m r (.bF [iQ (aM k n bv cf).1,cH (aM k n bv cf).2.1,cH (aM k n bv cf).2.2])))
   ⟨mg 74 [(1,an .i64 (n:Nat)),(2,an .i64 bv),(3,an .i64 cf),(4,.rv (.one (.ptr 0 0))),(8,.rv (.one (.ptr 1 0))),(11,an .i64 (i:Nat))],[.var ((kC k.l k.ops k.ps).map .aa),.var [.aI,.aI,.aI]]⟩:=by
 have DJ:aT k.ps n=k.ps[n].aU:=by rw[aT,aab hn]
 have DE:=hk.sl _ (aau hn);have Sm:k.ops.length<=4194304:=hk.lo;rw[aM,if_neg jC,DJ,<-hi];refine ag (d5 hn) ?_;generalize k.ps[n].aU=S at DE;refine Am S om (i:Nat) cf ?_;generalize fL S (i:Nat) cf=A;obtain⟨y,fd,e⟩:=A;refine br (fun he=>?_) (fun he=>?_)
 .rw[if_pos he];exact lX gK (eP.self rfl)
 have he:e=0:=he;subst he;rw[if_neg aG];refine ix k.l k.ops k.ps ⟨hk.ll,fun o ho=>(hk.sm o ho).mP⟩ hk.lo hk.lp hk.sl hk.ne ?_
 refine bH (fun lA=>?_) (fun lA=>?_)
 .have lA:i=k.ops.length:=by have lA:(i:Int)=((af (k.ops.map bG.enc)).length:Int):=lA;rw[bc,aad]at lA;omega
  have jU:iR k.ops i ⟨bv,0⟩=(k.ops++ [bG.mk 0 0]).set i ⟨bv,0⟩:=by rw[iR,if_pos lA,lA];simp
  rw[jU];refine⟨by simp only[cw,bc,aad,aax,aaT];omega,?_⟩
  refine⟨_,View.o1 8 [1,2,7,4,5] [] ?_,QY k.l (k.ops++ [bG.mk 0 0]) k.ps n i hn (by simp;omega) bv fd y⟩
  .exact .pe rfl rfl rfl (.pr rfl rfl rfl (.pt rfl rfl (.bV (by simp[cw,af,bG.enc])) (.pr rfl rfl rfl (.pm rfl rfl rfl))))
 .have aC:i<k.ops.length:=by have lA:¬(i:Int)=((af (k.ops.map bG.enc)).length:Int):=lA;rw[bc,aad]at lA;omega
  have jU:iR k.ops i ⟨bv,0⟩=k.ops.set i ⟨bv,0⟩:=by rw[iR,if_neg om]
  rw[jU];refine⟨_,View.o1 6 [1,2,3,4,5] [] ?_,QY k.l k.ops k.ps n i hn aC bv fd y⟩
  .exact .pe rfl rfl rfl (.pr rfl rfl rfl (.pr rfl rfl rfl (.pr rfl rfl rfl (.pm rfl rfl rfl))))
theorem CD(k:Kr)(hk:dE k.l k.ops k.ps)(n:Nat)(hn:n<k.ps.length)(bv cf:Int):body Tryz.prog c79 [dJ k.l k.ops k.ps,an .i64 (n:Nat),an .i64 bv,an .i64 cf] []
  (fun r m=>cJ m r (.bF [iQ (aM k n bv cf).1,cH (aM k n bv cf).2.1,cH (aM k n bv cf).2.2])):=by
 refine Hm k.ops hk.lo ?_;have Sm:k.ops.length<=4194304:=hk.lo;cases ho:DI k.ops with
 |none=>
  have Sn:Ko k.ops= -1:=by rw[Ko,ho]
  have So:cY k.ops=k.ops.length:=by rw[cY,ho];rfl
  rw[Sn];refine aB (fun we=>?_) (fun we=>?_)
  .have we:k.ops.length>=60:=by have we:((k.ops.map bG.enc).length:Int)>=60:=we;rw[aad]at we;omega
   rw[aM,if_pos ⟨ho,we⟩];exact lX gK (eP.self rfl)
  .have we:¬k.ops.length>=60:=by have we:¬((k.ops.map bG.enc).length:Int)>=60:=we;rw[aad]at we;omega
   refine⟨_,View.o 2 [0,1] [] ?_ ?_,QZ k hk n hn bv cf k.ops.length So.symm (aaj _) (fun h=>we h.2)⟩
   .have hlen:an .i64 (((k.ops.map bG.enc).length:Nat):Int)=an .i64 ((k.ops.length:Nat):Int):=by rw[aad]
    repeat(first|exact .nil|refine .ap ?_|refine .eq rfl ?_)
    refine .eq hlen.symm ?_;repeat(first|exact .nil|refine .ap ?_|refine .eq rfl ?_)
   .exact .pt rfl rfl (.eq rfl (by simp[kC])) (.pm rfl rfl rfl)
 |some i=>
  have Sn:Ko k.ops=(i:Nat):=by rw[Ko,ho]
  have So:cY k.ops=i:=by rw[cY,ho];rfl
  have Qq:=Ao ho;rw[Sn];refine⟨_,View.o1 2 [0,1] [] ?_,QZ k hk n hn bv cf i So.symm om (fun h=>by rw[ho]at h;cases h.1)⟩
  .exact .pt rfl rfl (.eq rfl (by simp[kC])) (.pm rfl rfl rfl)
theorem sN(k:Kr)(hk:dE k.l k.ops k.ps)(n:Nat)(hn:n<k.ps.length)(bv cf:Int){m:Mem}{K:CV->Mem->Prop}(h:K (.bF [iQ (aM k n bv cf).1,cH (aM k n bv cf).2.1,cH (aM k n bv cf).2.2]) m):ar Tryz.prog 79 [dJ k.l k.ops k.ps,an .i64 (n:Nat),an .i64 bv,an .i64 cf] m K:=
 bb (cm Tryz.func79 l79 (CD k hk n hn bv cf)) (by simp[dJ,cX,eA,fC,an,CV.dx,CC.dx,RV.dx]) fun r m1 hf=>⟨_,hf,h⟩
def c84:LF:= ⟨84,[.cell true 3 4,.tmp 5,.tmp 6,.tmp 7],(.seq (.ai [qu 2 (.box 0),qu 4 (.alloc [.aI,.aI,.aI]),qu 5 (.aD (qi 0)),qu 6 (.aD (qi 0)),qu 7 (.aD (qi 0))]) (.seq (.seq (.ai [qL 14 3 2,qm 15 1,qu 16 (qc 35 [14,15]),qu 17 (.un .not 16)]) (.cond 17 (.seq (.ai [qu 18 (.build [.aI,.aI,.aI] []),qw (.store 3 4 18),qu 5 (.aD (qi 0)),qu 6 (.aD (qi 0)),qu 7 (.aD (qi 6))]) .ret) .skip)) (.seq (.ai [qu 19 (qc 125 [2]),qm 8 19]) (.seq (.seq (.ai [qm 20 8,qu 21 (.aF .lss 20 (qi 0))]) (.cond 21 (.seq (.ai [qu 22 (.build [.aI,.aI,.aI] []),qw (.store 3 4 22),qu 5 (.aD (qi 0)),qu 6 (.aD (qi 0)),qu 7 (.aD (qi 15))]) .ret) .skip)) (.seq (.ai [qL 23 3 2,qu 24 (qc 66 [23]),qu 9 (.alloc [.aI,.aI,.aI]),qw (.store 3 9 24)]) (.seq (.seq (.ai [qm 25 8,qf 26 2 9,ql 27 26,qu 28 (.len 1 27),qu 29 (.aF .eql 25 28)]) (.cond 29 (.ai [qf 30 2 9,ql 31 30,qu 32 (.build [(.aa (.val (.bool false))),(.aa (.val (.bool false))),(qd 0),.aI] []),qu 33 (.mh 4 [(.aa (.val (.bool false))),(.aa (.val (.bool false))),(qd 0),.aI] 1 [(0,32)]),qu 34 (.nO 4 40 31 33),qf 35 2 9,qw (.store 1 35 34)]) .skip)) (.cO (.seq (.bQ [qf 36 2 9,ql 37 36,qm 38 8,qf 39 2 2,ql 40 39,qm 41 1,qu 42 (.bO 4 40 41),qf 43 1 42,ql 44 43,qf 45 2 2,ql 46 45,qm 47 1,qu 48 (.bO 4 46 47),qf 49 3 48,ql 50 49,qu 51 (qc 107 [50]),qu 52 (.build [(.aa (.val (.bool false))),(.aa (.val (.bool false))),(qd 0),.aI] [(0,1,(qb true)),(1,1,44),(3,1,51)]),qu 53 (.bO 4 37 38),qw (.store 4 53 52)] [(.cons 0 none (.cons 1 none (.cons 2 none (.cons 3 none (.cons 4 none (.cons 5 none (.cons 6 none (.cons 7 none (.cons 8 none (.cons 9 none (.cons 10 none (.cons 11 none (.cons 12 none (.cons 13 none (.cons 14 none (.cons 15 (some [8,6,4,1]) (.cons 16 none (.cons 17 none (.cons 18 (some []) .nil)))))))))))))))))))]) (.cO (.seq (.ai [qf 55 0 9,ql 56 55,qm 57 8,qu 58 (.build [(qd 0),.aI,.aI,(.aa (.val (.string ⟨#[]⟩))),(qd 0),.aI,(qd 0),(qd 0),(qd 0)] [(0,1,(qi 5)),(4,1,(qi (-1))),(6,1,57)]),qu 59 (qc 118 [56,58]),qm 54 59,qu 60 (.ext 54 0),qu 61 (.ext 54 1),qu 62 (.ext 54 2),qm 10 60,qm 11 61,qm 12 62]) (.seq (.seq (.ai [qm 63 12,qu 64 (.aF .neq 63 (qi 0))]) (.cond 64 (.seq (.ai [qu 65 (.build [.aI,.aI,.aI] []),qm 66 12,qw (.store 3 4 65),qu 5 (.aD (qi 0)),qu 6 (.aD (qi 0)),qm 7 66]) .ret) .skip)) (.seq (.ai [qm 67 10,qf 68 0 9,qw (.store 1 68 67)]) (.seq (.ai [qL 70 3 9,qm 71 1,qm 72 11,qu 73 (qc 79 [70,71,72,(qi 3200)]),qm 69 73,qu 74 (.ext 69 0),qu 75 (.ext 69 1),qu 76 (.ext 69 2),qw (.store 3 9 74),qm 13 75,qm 12 76]) (.seq (.seq (.ai [qm 77 12,qu 78 (.aF .neq 77 (qi 0))]) (.cond 78 (.seq (.ai [qu 79 (.build [.aI,.aI,.aI] []),qm 80 12,qw (.store 3 4 79),qu 5 (.aD (qi 0)),qu 6 (.aD (qi 0)),qm 7 80]) .ret) .skip)) (.seq (.ai [qL 81 3 9,qm 82 8,qm 83 13,qw (.store 3 4 81),qm 5 82,qm 6 83,qu 7 (.aD (qi 0))]) .ret)))))))))))))))⟩
theorem l84:bs Tryz.prog Tryz.f84=some c84.er:=by kernel_rfl
def cP(c:Int):Obj:=⟨5,[],[],⟨#[]⟩,-1,[],c,0,0⟩
theorem CE(c:Int):(cP c).sm:=⟨⟨⟨[],rfl⟩,⟨[],rfl⟩,fun q hq=>by simp[cP]at hq⟩,by simp[cP],by simp[cP],by simp[cP],fun q hq=>by simp[cP]at hq⟩
theorem Mr(a:CV)(c:Int):kO [a,.rv (.agg [.aa (.val (.int .i64 5)),.aI,.aI,.aa (.val (.string ⟨#[]⟩)),.aa (.val (.int .i64 (-1))),.aI,.aa (.val (.int .i64 c)),.aa (.val (.int .i64 0)),.aa (.val (.int .i64 0))])] [a,(cP c).cv]:=
 .dK _ (.agg (.cons (.dK _) (.cons (.aI 1) (.cons (.aI 2) (.cons (.dK _) (.cons (.dK _) (.cons (.aI 4) (.cons (.dK _) (.cons (.dK _) (.cons (.dK _) .nil))))))))) .nil)
theorem y3{l:List Obj}{o x:Obj}(h:x∈(aK l o).1):x∈l\/x=o:=by
 unfold aK at h;split at h
 .exact aaI h
 .split at h
  .simp at h
  .simpa using h
theorem I5(l:List Obj)(o:Obj):(aK l o).1.length<=l.length+1:=by
 unfold aK;split
 .simp
 .split<;>simp
theorem Ms{m:Mem}{a b:RV}{x y z:Int}(h:eP m a b):cJ m (.bF [a,cH x,cH y,cH z]) (.bF [b,cH x,cH y,cH z]):=by
 refine .bF rfl fun i r r' h1 h2=>?_
 match i,h1,h2 with
 |0,h1,h2=>cases h1;cases h2;exact h
 |1,h1,h2=>cases h1;cases h2;exact eP.self rfl
 |2,h1,h2=>cases h1;cases h2;exact eP.self rfl
 |3,h1,h2=>cases h1;cases h2;exact eP.self rfl
 |n+4,h1,h2=>simp at h1
def wg(l:List Obj)(ops:List bG)(P:List bi)(n:Nat)(c:Int):Kr×Int×Int×Int:=
 if(aK l (cP c)).2.2≠0 then(m9,0,0,(aK l (cP c)).2.2)
 else if(aM ⟨(aK l (cP c)).1,ops,P⟩ n (aK l (cP c)).2.1 3200).2.2≠0 then(m9,0,0,(aM ⟨(aK l (cP c)).1,ops,P⟩ n (aK l (cP c)).2.1 3200).2.2)
 else((aM ⟨(aK l (cP c)).1,ops,P⟩ n (aK l (cP c)).2.1 3200).1,c,(aM ⟨(aK l (cP c)).1,ops,P⟩ n (aK l (cP c)).2.1 3200).2.1,0)
def fU(ps:List bi)(n c:Nat):List bi:=match ps[n]? with
 |some x=>if c=ps.length then ps++ [⟨true,x.fenced,0,x.aU⟩]else ps.set c ⟨true,x.fenced,0,x.aU⟩
 |none=>ps
def gL(k:Kr)(p:Int):Kr×Int×Int×Int:=
 if ek k.ps p=false then(m9,0,0,6)else if gw k.l k.ps<0 then(m9,0,0,15)
 else wg k.l k.ops (fU k.ps p.toNat (gw k.l k.ps).toNat) p.toNat (gw k.l k.ps)
def Hn(a:Kr×Int×Int×Int):CV:= .bF [iQ a.1,cH a.2.1,cH a.2.2.1,cH a.2.2.2]
def C36:LC:=bK (bK (bK (bK (bK (bK c84.code)))))
def G36:LC:=pj C36
def C55:LC:=bK G36
def G55:LC:=pj C55
theorem Vn(l:List Obj)(ops:List bG)(P:List bi)(hk:dE l ops P)(Ff:l.length<=4194303)(n:Nat)(hn:n<P.length)(c:Int):
  aw Tryz.prog 0 G55 (nG Tryz.prog c84.lj (fun r m=>cJ m r (Hn (wg l ops P n c))))
   ⟨mg 84 [(1,an .i64 (n:Nat)),(4,.rv (.one (.ptr 0 0))),(8,an .i64 c),(9,.rv (.one (.ptr 1 0)))],[.var [.aI,.aI,.aI],.var ((kC l ops P).map .aa)]⟩:=by
 have hA1:∀x,x∈(aK l (cP c)).1->x.sm:=fun x hx=>by
  rcases y3 hx with hx|rfl
  .exact hk.sm x hx
  .exact CE c
 have YW:=I5 l (cP c);refine mz (Mr _ _) (z7 l ⟨hk.ll,fun o ho=>(hk.sm o ho).mP⟩ (cP c) ?_)
 unfold wg;generalize aK l (cP c)=A at hA1 YW;obtain⟨A1,k,e⟩:=A;refine br (fun he=>?_) (fun he=>?_)
 .rw[if_pos he];exact Ms gK
 have he:e=0:=he;subst he;rw[if_neg aG];refine sN ⟨A1,ops,P⟩ ⟨hA1,by have YW:A1.length<=l.length+1:=YW;show A1.length<=4194304;omega,hk.lo,hk.lp,hk.sl,hk.ne⟩ n hn k 3200 ?_
 generalize aM ⟨A1,ops,P⟩ n k 3200=B;obtain⟨B1,fd,e2⟩:=B;refine br (fun mO=>?_) (fun mO=>?_)
 .rw[if_pos mO];exact Ms gK
 have mO:e2=0:=mO;subst mO;rw[if_neg aG];exact Ms (eP.self (Ak _))
theorem ot(l:List Obj)(ps:List bi):∀(n p c:Nat),oq l ps n p=(c:Nat)->p<=ps.length->c<=ps.length/\p<=c/\c<p+n/\(c<ps.length->po l ps c=true)
 |0,p,c,h,_=>by have h:(-1:Int)=(c:Nat):=h;omega
 |n+1,p,c,h,hp=>by
  rw[oq]at h;by_cases h1:p=ps.length
  .rw[if_pos h1]at h;have:p=c:=om;subst this;exact⟨om,om,om,fun h2=>om⟩
  .rw[if_neg h1]at h;by_cases h2:po l ps p=true
   .rw[if_pos h2]at h;have:p=c:=om;subst this;exact⟨om,om,om,fun _=>h2⟩
   .rw[if_neg h2]at h;obtain⟨a,b,c1,d⟩:=ot l ps n (p+1) c h om;exact⟨a,om,om,d⟩
theorem Q0(k:Kr)(hk:dE k.l k.ops k.ps)(Ff:k.l.length<=4194303)(P:List bi)(hP:∀p,p∈P->p.aU.length<=10)(Xa:P.length<=4194304)(n:Nat)(hn:n<k.ps.length)(hnP:n<P.length)(c:Nat)(hc:c<P.length):
  aw Tryz.prog 0 G36 (nG Tryz.prog c84.lj (fun r m=>cJ m r (Hn (wg k.l k.ops (P.set c ⟨true,k.ps[n].fenced,0,k.ps[n].aU⟩) n (c:Nat)))))
   ⟨mg 84 [(1,an .i64 (n:Nat)),(2,.rv (.one (.ptr 0 0))),(4,.rv (.one (.ptr 1 0))),(8,an .i64 (c:Nat)),(9,.rv (.one (.ptr 5 0)))],
    [.var ((kC k.l k.ops k.ps).map .aa),.var [.aI,.aI,.aI],.row 9 (af (k.l.map Obj.enc)),.row 2 (af (k.ops.map bG.enc)),.row 4 (af (P.map bi.enc)),.var [.row 2 9 0 none,.row 3 2 0 none,.row 4 4 0 none]]⟩:=by
 have hg:=d5 hn;have DE:=hk.sl _ (aau hn);have hr:=bI bi.enc P hc;generalize k.ps[n]=z at hg DE;obtain⟨aV,fenced,cd,aU⟩:=z;have DE:aU.length<=10:=DE;generalize P[c]=w at hr;obtain⟨wl,wf,wc,ws⟩:=w;refine ag hg ?_;refine ag hg ?_;refine i5 aU om ?_;refine⟨⟨rfl,ag hg rfl,rfl,rfl,trivial⟩,?_⟩;refine ag (lY hc) ?_;refine ag hr ?_;refine⟨trivial,?_⟩;have jU:∀x,x∈P.set c ⟨true,fenced,0,aU⟩->x.aU.length<=10:=fun x hx=>by
  rcases aaI hx with hx|rfl
  .exact hP x hx
  .exact DE
 have eO:=Vn k.l k.ops (P.set c ⟨true,fenced,0,aU⟩) ⟨hk.sm,hk.ll,hk.lo,by rw[aaE];exact Xa,jU,fun h=>by have:=congrArg List.length h;rw[aaE,aaT]at this;omega⟩ Ff n (by rw[aaE];exact hnP) (c:Nat)
 refine⟨_,View.o1 6 [1,5] [2,3,4] ?_,eO⟩
 .refine .pe rfl rfl rfl (.pt rfl rfl (e7.var (.cons (.fv (dP.eE (Z:=fun k=>bq [2,3,4] k=true) rfl rfl 0 none)) (.cons (.fv (dP.eE (Z:=fun k=>bq [2,3,4] k=true) rfl rfl 0 none)) (.cons (.fv (Mq (Z:=fun k=>bq [2,3,4] k=true) (c:=(bi.enc ⟨true,fenced,0,aU⟩).map .aa) ?_ rfl rfl)) .nil)))) (.nil _))
  exact .cons (.aa _) (.cons (.aa _) (.cons (.aa _) (.cons (.aa _) .nil)))
theorem I6(k:Kr)(hk:dE k.l k.ops k.ps)(Ff:k.l.length<=4194303)(p:Int):body Tryz.prog c84 [dJ k.l k.ops k.ps,an .i64 p] [] (fun r m=>cJ m r (Hn (gL k p))):=by
 refine ol k.l k.ops k.ps p ?_;have h2:=hk.lp;refine aE (fun h1=>?_) (fun h1=>?_)
 .have h1:ek k.ps p=false:=by simpa using h1
  rw[gL,if_pos h1];exact Ms gK
 have h1:ek k.ps p=true:=by simpa using h1
 obtain⟨n,rfl,hn,dh⟩:=oo h1;rw[gL,if_neg (by rw[h1];simp)]
 refine fb (args0:=[.rv (.one (.ptr 0 0))]) (cs:=kC k.l k.ops k.ps) 0 rfl rfl (r0:=an .i64 (gw k.l k.ps)) rfl (fun K hK=>Aj k.l hk.ll k.ops k.ps K hK) ?_
 refine aB (fun h3=>?_) (fun h3=>?_)
 .rw[if_pos h3];exact Ms gK
 rw[if_neg h3];obtain⟨c,hc⟩:∃c:Nat,gw k.l k.ps=(c:Int):=⟨(gw k.l k.ps).toNat,om⟩;obtain⟨dG,_,hc8,_⟩:=ot k.l k.ps 8 0 c hc (aao _);rw[hc,show((n:Nat):Int).toNat=n from rfl,show((c:Nat):Int).toNat=c from rfl];refine ix k.l k.ops k.ps ⟨hk.ll,fun o ho=>(hk.sm o ho).mP⟩ hk.lo hk.lp hk.sl hk.ne ?_
 refine bH (fun lA=>?_) (fun lA=>?_)
 .have lA:c=k.ps.length:=by have lA:(c:Int)=((af (k.ps.map bi.enc)).length:Int):=lA;rw[bc,aad]at lA;omega
  have YX:fU k.ps n c=(k.ps++ [fQ]).set c ⟨true,k.ps[n].fenced,0,k.ps[n].aU⟩:=by rw[fU,aab hn];simp only[];rw[if_pos lA,lA];simp
  rw[YX];refine⟨by simp only[cw,bc,aad,aax,aaT];omega,?_⟩
  have eO:=Q0 k hk Ff (k.ps++ [fQ]) (fun x hx=>by
   rcases abf.1 hx with hx|hx
   .exact hk.sl x hx
   .simp at hx;subst hx;simp[fQ]) (by simp;omega) n hn (by simp;omega) c (by simp;omega)
  refine⟨_,View.o1 8 [0,1,2,3,7,5] [] ?_,eO⟩
  .exact .pt rfl rfl (.eq rfl (by simp[kC])) (.pe rfl rfl rfl (.pr rfl rfl rfl (.pr rfl rfl rfl (.pt rfl rfl (Va k.ps fQ (.fv (.aI 3)) (by simp[cw,af,CC.aQ,fQ])) (.pm rfl rfl rfl)))))
 .have aC:c<k.ps.length:=by have lA:¬(c:Int)=((af (k.ps.map bi.enc)).length:Int):=lA;rw[bc,aad]at lA;omega
  have YX:fU k.ps n c=k.ps.set c ⟨true,k.ps[n].fenced,0,k.ps[n].aU⟩:=by rw[fU,aab hn];simp only[];rw[if_neg om]
  rw[YX];have eO:=Q0 k hk Ff k.ps hk.sl hk.lp n hn hn c aC;refine⟨_,View.o1 6 [0,1,2,3,4,5] [] ?_,eO⟩
  .exact .pt rfl rfl (.eq rfl (by simp[kC])) (.pe rfl rfl rfl (.pr rfl rfl rfl (.pr rfl rfl rfl (.pr rfl rfl rfl (.pm rfl rfl rfl)))))
theorem Ho(k:Kr)(hk:dE k.l k.ops k.ps)(Ff:k.l.length<=4194303)(p:Int){m:Mem}{K:CV->Mem->Prop}(h:K (Hn (gL k p)) m):ar Tryz.prog 84 [dJ k.l k.ops k.ps,an .i64 p] m K:=
 bb (cm Tryz.func84 l84 (I6 k hk Ff p)) (by simp[dJ,cX,eA,fC,an,CV.dx,CC.dx,RV.dx]) fun r m1 hf=>⟨_,hf,h⟩
def c69:LF:= ⟨40,[.tmp 6,.tmp 7],(.seq (.ai [qu 6 (.aD qe),qu 7 (.aD (qi 0))]) (.seq (.ai [qm 12 0,qm 13 1,qu 14 (qc 80 [12,13]),qm 11 14,qu 15 (.ext 11 0),qu 16 (.ext 11 1),qu 8 (.alloc [(qd 0),(qd 0)]),qw (.store 2 8 15),qm 9 16]) (.seq (.block 0 (.seq (.ai [qm 18 9,qu 19 (.aF .neq 18 (qi 0)),qm 17 19]) (.cond 17 (.seq (.ai [qm 20 9,qu 6 (.aD qe),qm 7 20]) .ret) (.seq (.ai [qm 22 2,qu 23 (qc 61 [22]),qu 24 (.un .not 23),qm 21 24]) (.cond 21 (.seq (.ai [qu 6 (.aD qe),qu 7 (.aD (qi 3))]) .ret) (.seq (.ai [qm 26 2,qf 27 1 8,ql 28 27,qu 29 (qc 108 [26,28]),qu 30 (.un .not 29),qm 25 30]) (.cond 25 (.seq (.ai [qu 6 (.aD qe),qu 7 (.aD (qi 10))]) .ret) .skip))))))) (.seq (.ai [qm 31 0,qu 32 (qc 107 [31]),qm 10 32]) (.seq (.ai [qm 33 10,qm 34 1,qm 35 2,qu 36 (.bO 3 33 34),qf 37 1 36,qf 38 1 37,qw (.store 1 38 35)]) (.seq (.ai [qm 39 10,qm 6 39,qu 7 (.aD (qi 0))]) .ret))))))⟩
namespace Tb
theorem l69:bs Tryz.prog Tryz.f69=some c69:=by kernel_rfl
def Ap(l:List bZ)(fd n:Int):List bZ×Int:=
 if(dt l fd).2=0 then
  if eQ n=false then([],3)else if d6 n (dt l fd).1.cf=false then([],10)else(l.set fd.toNat ⟨true,⟨(dt l fd).1.eT,n⟩⟩,0)
 else([],(dt l fd).2)
theorem Fg(l:List bZ)(hb:l.length<=2097152)(fd n:Int):body Tryz.prog c69 [ef l,an .i64 fd,an .i64 n] [] (fun r m=>cJ m r (.bF [ja (Ap l fd n).1,cH (Ap l fd n).2])):=by
 refine wb l fd ?_;refine aE (fun h=>?_) (fun h=>?_)
 .have h:¬(dt l fd).2=0:=by simpa using h
  rw[Ap,if_neg h];exact j0 (.one (.aI 3))
 .have h:(dt l fd).2=0:=by simpa using h
  rw[Ap,if_pos h];refine wd n ?_;refine aE (fun h1=>?_) (fun h1=>?_)
  .have h1:eQ n=false:=by simpa using h1
   rw[if_pos h1];exact j0 (.one (.aI 3))
  .have h1:eQ n=true:=by simpa using h1
   rw[if_neg (by simp[h1])]
   refine yZ _ _ ?_;refine aE (fun h2=>?_) (fun h2=>?_)
   .have h2:d6 n (dt l fd).1.cf=false:=by simpa using h2
    rw[if_pos h2];exact j0 (.one (.aI 3))
   .have h2:d6 n (dt l fd).1.cf=true:=by simpa using h2
    rw[if_neg (by simp[h2])]
    obtain⟨d,rfl,hd,Vj,bp⟩:=Hl h;rw[show((d:Nat):Int).toNat=d from rfl];refine oS l hb (fun hl=>by subst hl;simp at hd) ?_
    refine ag (bT (k:=d) (by simp[ce,lenOf];omega)) ?_
    refine ag (x:=(l[d].enc).map .aa) (by simp[aX,ce,ii,hd]) ?_
    refine j0 (.one ?_);have e:ba (ce l) d [CC.aa (.val (.bool l[d].has)),CC.aa (.val (.int .i64 l[d].cap.eT)),CC.aa (.val (.int .i64 n))]=af ((l.set d ⟨true,⟨(dt l d).1.eT,n⟩⟩).map bZ.enc):=by rw[bn,Vj,bp];simp[ce,af,bZ.enc]
    exact eI.eE (congrArg (fun x=>some (Bk.row 3 x)) e) 0 none
theorem Mt(l:List bZ)(hb:l.length<=2097152)(fd n:Int){m:Mem}{K:CV->Mem->Prop}(h:K (.bF [ja (Ap l fd n).1,cH (Ap l fd n).2]) m):ar Tryz.prog 69 [ef l,an .i64 fd,an .i64 n] m K:=
 bb (aZ Tryz.func69 l69 (Fg l hb fd n)) (by simp[ef,an,CV.dx,CC.dx]) fun r m1 hf=>⟨_,hf,h⟩
end Tb
end Go.Proofs.YtojhmadmlnfpcaaGreatDoor
