/- Part 39 of 43: what the law stands on. -/
import Derived.Test.YtojhmadmlnfpcaaGreatDoorK16
import Derived.Test.YtojhmadmlnfpcaaGreatDoorK17
import Derived.Test.YtojhmadmlnfpcaaGreatDoorK24
import Derived.Test.YtojhmadmlnfpcaaGreatDoorK29
import Derived.Test.YtojhmadmlnfpcaaGreatDoorK38
import Derived.Shelf.SlSortCmp.WholeK
import Derived.Shelf.SlicesG.Cmp
import Derived.WalkKit
import Derived.OwnWalkIn
set_option linter.unusedVariables false
set_option linter.unusedSimpArgs false
set_option linter.unnecessarySimpa false
set_option maxRecDepth 100000
set_option maxHeartbeats 64000000
namespace Go.Proofs.YtojhmadmlnfpcaaGreatDoor
open Go.AM Go.ChangeShapes Go.WideShapes Go.ChangeAt Go.RowKit
def c34:LF:= ⟨45,[.tmp 2],(.seq (.ai [qu 2 (.aD qe)]) (.seq (.seq (.ai [qm 7 0,qu 8 (.len 1 7)]) (.block 0 (.seq (.ai [qu 10 (.aF .eql 8 (qi 0)),qm 9 10]) (.cond 9 (.seq (.ai [qu 11 (.build [(qd 0),(qd 0),(qd 0),(qd 0)] [(0,1,(qi 6)),(3,1,(qi 0))]),qu 12 (.mh 4 [(qd 0),(qd 0),(qd 0),(qd 0)] 1 [(0,11)]),qm 2 12]) .ret) (.seq (.ai [qu 14 (.aF .eql 8 (qi 1)),qm 13 14]) (.cond 13 (.seq (.ai [qm 15 0,qu 16 (.bO 2 15 (qi 0)),qL 17 2 16,qu 18 (qc 59 [17]),qm 2 18]) .ret) .skip)))))) (.seq (.ai [qm 19 0,qu 20 (.len 1 19),qu 21 (.aF .quo 20 (qi 2)),qm 3 21]) (.cO (.seq (.bQ [qm 22 0,qm 23 3,qu 24 (.nN 2 22 none (some 23) none),qu 25 (qc 34 [24]),qm 26 0,qm 27 3,qu 28 (.nN 2 26 (some 27) none none),qu 29 (qc 34 [28]),qm 4 25,qm 5 29] [(.cons 0 none (.cons 1 none (.cons 2 none (.cons 4 none (.cons 5 none (.cons 6 none (.cons 3 (some [6]) (.cons 7 (some []) (.cons 8 none (.cons 9 none .nil))))))))))]) (.seq (.ai [qm 30 0,qm 31 3,qu 32 (.bO 2 30 31),qf 33 0 32,ql 34 33,qu 35 (.build [(qd 0),(qd 0),(qd 0),(qd 0)] [(0,1,(qi 3)),(1,1,(qi 0)),(2,1,(qi 1)),(3,1,34)]),qm 36 4,qu 37 (.len 1 36),qu 38 (.build [(qd 0),(qd 0),(qd 0),(qd 0)] [(0,1,(qi 5)),(3,1,37)]),qu 39 (.mh 4 [(qd 0),(qd 0),(qd 0),(qd 0)] 2 [(0,35),(1,38)]),qm 6 39]) (.seq (.ai [qm 40 6,qm 41 4,qu 42 (.nO 4 32 40 41),qm 43 5,qu 44 (.nO 4 32 42 43),qm 2 44]) .ret)))))))⟩
def c59:LF:= ⟨50,[.tmp 2],(.seq (.ai [qu 1 (.box 0),qu 2 (.aD qe)]) (.seq (.ai [qf 8 1 1,ql 9 8,qu 10 (.len 1 9),qu 11 (.aF .mul (qi 2) 10),qu 12 (.aF .add 11 (qi 1)),qm 3 12]) (.seq (.ai [qm 13 3,qf 14 0 1,ql 15 14,qu 16 (.build [(qd 0),(qd 0),(qd 0),(qd 0)] [(0,1,(qi 2)),(1,1,(qi 0)),(2,1,13),(3,1,15)]),qu 17 (.mh 4 [(qd 0),(qd 0),(qd 0),(qd 0)] 1 [(0,16)]),qm 4 17]) (.seq (.seq (.ai [qf 18 1 1,ql 19 18,qu 20 (.len 1 19),qu 21 (.aD (qi 0))]) (.block 0 (.loop (.seq (.ai [qu 22 (.aF .lss 21 20)]) (.seq (.cond 22 .skip (.exit 0)) (.seq (.block 1 (.seq (.ai [qm 23 21,qu 24 (.bO 2 19 21),qL 25 2 24,qu 6 (.alloc [(qd 0),(qd 0)]),qm 5 23,qw (.store 2 6 25)]) (.seq (.ai [qf 26 1 1,ql 27 26,qu 28 (.len 1 27),qm 29 5,qu 30 (.aF .sub 28 29),qu 31 (.aF .sub 30 (qi 1)),qu 32 (.aF .mul (qi 2) 31),qu 33 (.aF .add 32 (qi 1)),qm 7 33]) (.ai [qm 34 4,qf 35 0 6,ql 36 35,qu 37 (.build [(qd 0),(qd 0),(qd 0),(qd 0)] [(0,1,(qi 1)),(3,1,36)]),qm 38 7,qf 39 1 6,ql 40 39,qu 41 (.build [(qd 0),(qd 0),(qd 0),(qd 0)] [(0,1,(qi 4)),(1,1,38),(2,1,(qi 0)),(3,1,40)]),qu 42 (.mh 4 [(qd 0),(qd 0),(qd 0),(qd 0)] 2 [(0,37),(1,41)]),qu 43 (.nO 4 32 34 42),qm 4 43])))) (.ai [qu 44 (.aF .add 21 (qi 1)),qm 21 44]))))))) (.seq (.ai [qm 45 4,qu 46 (.build [(qd 0),(qd 0),(qd 0),(qd 0)] [(0,1,(qi 6)),(3,1,(qi 1))]),qu 47 (.build [(qd 0),(qd 0),(qd 0),(qd 0)] [(0,1,(qi 6)),(3,1,(qi 0))]),qu 48 (.mh 4 [(qd 0),(qd 0),(qd 0),(qd 0)] 2 [(0,46),(1,47)]),qu 49 (.nO 4 32 45 48),qm 2 49]) .ret)))))⟩
theorem px(a b:List (List Dt)):af (a++b)=af a++af b:=by simp[af]
theorem l59:bs Tryz.prog Tryz.f59=some c59:=by kernel_rfl
theorem l34:bs Tryz.prog Tryz.f34=some c34.er:=by kernel_rfl
theorem Dk:∀(ms:List gl)(k:Nat)(m:gl),ms[k]? =some m->(lR ms)[2*k]? =some ⟨1,0,0,m.w⟩/\(lR ms)[2*k+1]? =some ⟨4,((2*(ms.length-k-1)+1:Nat):Int),0,m.bits⟩
 | [],k,m,h=>by simp at h
 |x::r,0,m,h=>by
  simp at h;subst h;refine⟨rfl,?_⟩;show some _=some _;rw[aax,show r.length+1-0-1=r.length by omega]
 |x::r,k+1,m,h=>by
  have:=Dk r k m (by simpa using h)
  rw[show 2*(k+1)=2*k+1+1 by omega,aax,show r.length+1-(k+1)-1=r.length-k-1 by omega]
  simpa[lR]using this
theorem zp:∀ms:List gl,(lR ms)[2*ms.length]? =some ⟨6,0,0,1⟩
 | []=>rfl
 |m::r=>by
  have:=zp r;rw[aax,show 2*(r.length+1)=2*r.length+1+1 by omega]
  simpa[lR]using this
theorem J4{p:bU}{k:Nat}{m:gl}(h:p.aN[k]? =some m):(d7 p).take (2*(k+1)+1)=(d7 p).take (2*k+1)++ [⟨1,0,0,m.w⟩,⟨4,((2*(p.aN.length-k-1)+1:Nat):Int),0,m.bits⟩]:=by
 obtain⟨h1,h2⟩:=Dk p.aN k m h;have e1:(d7 p)[2*k+1]? =some ⟨1,0,0,m.w⟩:=by simpa[d7]using h1
 have e2:(d7 p)[2*k+1+1]? =some ⟨4,((2*(p.aN.length-k-1)+1:Nat):Int),0,m.bits⟩:=by simpa[d7]using h2
 rw[show 2*(k+1)+1=2*k+1+1+1 by omega,aa8,e2,aa8,e1]
 simp
theorem NJ(p:bU):d7 p=(d7 p).take (2*p.aN.length+1)++ [⟨6,0,0,1⟩,⟨6,0,0,0⟩]:=by
 have h1:=zp p.aN;have h2:=k9 p.aN;have e1:(d7 p)[2*p.aN.length+1]? =some ⟨6,0,0,1⟩:=by simpa[d7]using h1
 have e2:(d7 p)[2*p.aN.length+1+1]? =some ⟨6,0,0,0⟩:=by simpa[d7]using h2
 have hl:(d7 p).length=2*p.aN.length+1+1+1:=by simp[d7,ig]
 have h3:(d7 p).take (2*p.aN.length+1+1+1)=d7 p:=abm om;rw[aa8,e2,aa8,e1,acg]at h3;exact h3.symm
theorem Gm(p:bU)(hm:p.aN.length<=1000):body Tryz.prog c59 [p.cv] [] (fun r m=>cJ m r (rH (d7 p))):=by
 have hn:IntKind.i64.wrap (IntKind.i64.wrap (2*(((p.aN.map gl.enc).length:Nat):Int))+1)=((2*p.aN.length+1:Nat):Int):=by rw[aad,g9 (n:=2*(p.aN.length:Int)) om om,g9 om om];omega
 refine aO (fun k=>k<=p.aN.length) [1,19] (fun k=>[(4,.rv (.one (.row 1 4 0 none))),(20,an .i64 (p.aN.length:Nat)),(21,an .i64 (k:Nat))]) (fun k=>[.var (p.enc.map .aa),.row 4 (af (((d7 p).take (2*k+1)).map dB.enc))])
  (fun k=>p.aN.length-k) 0 (aao _) ?_ (fun k hk=>?_)
 .refine View.o 2 [0,1] [] ?_ ?_
  .repeat(first|exact .nil|refine .ap ?_|refine .eq rfl ?_|refine .put (.aQ (by rw[aad];rfl)) ?_)
  .refine .pe rfl rfl rfl (.pt rfl rfl (.bV ?_) (.nil _));show [[CC.aa (.val (.int .i64 2)),.aa (.val (.int .i64 0)),.aa (.val (.int .i64 (IntKind.i64.wrap (IntKind.i64.wrap (2*(((p.aN.map gl.enc).length:Nat):Int))+1)))),.aa (.val (.int .i64 p.call))]]=_;rw[hn];rfl
 have hk:k<=p.aN.length:=hk;refine aB (fun h=>?_) (fun h=>?_)
 .have aC:k<p.aN.length:=by have h:(k:Int)<(p.aN.length:Int):=h;omega
  have hi:=aab aC;have hT:=J4 hi;have hg:cy (p.aN.map gl.enc) (k:Nat)=some [.val (.int .i64 p.aN[k].w),.val (.int .i64 p.aN[k].bits)]:=by rw[bl,aaf,hi];rfl
  generalize p.aN[k]=mk at hT hg;refine ag hg ?_;have hw:IntKind.i64.wrap (IntKind.i64.wrap (2*IntKind.i64.wrap (IntKind.i64.wrap ((((p.aN.map gl.enc).length:Nat):Int)-(k:Int))-1))+1)=((2*(p.aN.length-k-1)+1:Nat):Int):=by rw[aad,g9 (n:=(p.aN.length:Int)-k) om om,g9 (n:=(p.aN.length:Int)-k-1) om om,g9 (n:=2*((p.aN.length:Int)-k-1)) om om,g9 om om];omega
  refine⟨?_,?_⟩
  .show((af (((d7 p).take (2*k+1)).map dB.enc)).length+2)*32<=_;simp[af];omega
  refine⟨k+1,aC,(show p.aN.length-(k+1)<p.aN.length-k by omega),View.o 5 [0,4] [] ?_ ?_⟩
  .repeat(first|exact .nil|refine .ap ?_|refine .put (.aQ (aq om).symm) ?_|refine .eq rfl ?_)
  .refine .pe rfl rfl rfl (.pt rfl rfl (.bV ?_) (.nil _));show af (((d7 p).take (2*k+1)).map dB.enc)++ [[CC.aa (.val (.int .i64 1)),.aa (.val (.int .i64 0)),.aa (.val (.int .i64 0)),.aa (.val (.int .i64 mk.w))],[.aa (.val (.int .i64 4)),.aa (.val (.int .i64 (IntKind.i64.wrap (IntKind.i64.wrap (2*IntKind.i64.wrap (IntKind.i64.wrap ((((p.aN.map gl.enc).length:Nat):Int)-(k:Int))-1))+1)))),.aa (.val (.int .i64 0)),.aa (.val (.int .i64 mk.bits))]]=_;rw[hw,hT,aaU,px];rfl
 .have Ac:k=p.aN.length:=by have h:¬(k:Int)<(p.aN.length:Int):=h;omega
  subst Ac;refine⟨?_,?_⟩
  .show((af (((d7 p).take (2*p.aN.length+1)).map dB.enc)).length+2)*32<=_;simp[af];omega
  have eO:some (Bk.row 4 (af (((d7 p).take (2*p.aN.length+1)).map dB.enc)++ [[CC.aa (.val (.int .i64 6)),.aa (.val (.int .i64 0)),.aa (.val (.int .i64 0)),.aa (.val (.int .i64 1))],[.aa (.val (.int .i64 6)),.aa (.val (.int .i64 0)),.aa (.val (.int .i64 0)),.aa (.val (.int .i64 0))]]))=some (Bk.row 4 (af ((d7 p).map dB.enc))):=by
   conv=>rhs;rw[NJ p,aaU,px]
   rfl
  exact .rv (.one (eI.eE eO 0 none))
theorem NK(p:bU)(hm:p.aN.length<=1000){m:Mem}{K:CV->Mem->Prop}(h:K (rH (d7 p)) m):ar Tryz.prog 59 [p.cv] m K:=
 bb (aZ Tryz.func59 l59 (Gm p hm)) (by simp[bU.cv,CV.dx,CC.dx,RV.dx]) fun r m1 hf=>⟨_,hf,h⟩
theorem p6{n:Nat}{l:List bU}(hg:∀p,p∈l->p.aN.length<=3)(hl:l.length<=30)(hn:l.length<=n):(di n l).length<=330:=by
 have h2:=oY n l hg hn;by_cases e:l=[]
 .have:=h2.1 e;omega
 .have:=h2.2 e;omega
theorem HL:∀(n:Nat)(l:List bU),l.length<=n->l.length<=30->(∀p,p∈l->p.aN.length<=3)->∀{m:Mem}{K:CV->Mem->Prop},K (rH (di n l)) m->ar Tryz.prog 34 [cS l] m K:=by
 intro n
 induction n with
 |zero=>
  intro l hl _ _ m K h;have:l=[]:=aat om;subst this;refine bb (K0:=fun r m=>cJ m r (rH (di 0 []))) (cm Tryz.func34 l34 ?_) (by simp[cS,CV.dx,CC.dx]) fun r m1 hf=>⟨_,hf,h⟩
  exact .rv (.one (eI.eE rfl 0 none))
 |succ n ih=>
  intro l hl ad3 hg m K h;refine bb (K0:=fun r m=>cJ m r (rH (di (n+1) l))) (cm Tryz.func34 l34 ?_) (by simp[cS,CV.dx,CC.dx]) fun r m1 hf=>⟨_,hf,h⟩
  refine bH (fun h0=>?_) (fun h0=>?_)
  .have h0:l=[]:=by have h0:(((l.map bU.enc).length:Nat):Int)=0:=h0;rw[aad]at h0;exact aat om
   subst h0;exact .rv (.one (eI.eE rfl 0 none))
  have h0:l.length≠0:=by have h0:(((l.map bU.enc).length:Nat):Int)≠0:=h0;rw[aad]at h0;omega
  refine bH (fun h1=>?_) (fun h1=>?_)
  .have h1:l.length=1:=by have h1:(((l.map bU.enc).length:Nat):Int)=1:=h1;rw[aad]at h1;omega
   match l,h1 with
   | [p],_=>
    refine NK p (by have:=hg p (by simp);omega) ?_
    exact cJ.self rfl
  have h2:2<=l.length:=by have h1:(((l.map bU.enc).length:Nat):Int)≠1:=h1;rw[aad]at h1;omega
  have hq:IntKind.i64.wrap ((((l.map bU.enc).length:Nat):Int).tdiv 2)=((l.length/2:Nat):Int):=by rw[aad,show(2:Int)=((2:Nat):Int)from rfl,<-Int.ofNat_tdiv,g9 om om]
  refine fa [0] [(3,an .i64 ((l.length/2:Nat):Int))] [] (View.o 0 [] [] ?_ (.nil _)) ?_
  .repeat(first|exact .nil|refine .ap ?_|refine .eq rfl ?_|refine .put (.aQ (congrArg (an .i64) hq).symm) ?_)
  have hk:l.length/2<l.length:=om;have b1:(Nat.ble 0 (l.length/2)&&Nat.ble (l.length/2) (l.map bU.enc).length)=true:=by rw[aap,aaR,aaR,aad];omega
  have b2:(Nat.ble (l.length/2) (l.map bU.enc).length&&Nat.ble (l.map bU.enc).length (l.map bU.enc).length)=true:=by rw[aap,aaR,aaR,aad];omega
  have e1:((l.map bU.enc).take (l.length/2)).drop 0=(l.take (l.length/2)).map bU.enc:=by rw[acC,abS]
  have e2:((l.map bU.enc).take (l.map bU.enc).length).drop (l.length/2)=(l.drop (l.length/2)).map bU.enc:=by rw[aaO,acJ]
  refine cF b1 ?_;refine cF b2 ?_;show ar Tryz.prog 34 [.rv (.one (.aa (.sl 2 (((l.map bU.enc).take (l.length/2)).drop 0))))] _ _;rw[e1];refine ih (l.take (l.length/2)) (by rw[aaz];omega) (by rw[aaz];omega) (fun p hp=>hg p (aa1 hp)) ?_
  refine⟨⟨cF b2 rfl,trivial⟩,?_⟩;show ar Tryz.prog 34 [.rv (.one (.aa (.sl 2 (((l.map bU.enc).take (l.map bU.enc).length).drop (l.length/2)))))] _ _;rw[e2];refine ih (l.drop (l.length/2)) (by rw[aa4];omega) (by rw[aa4];omega) (fun p hp=>hg p (abt hp)) ?_
  refine⟨trivial,?_⟩;have hgt:cy (l.map bU.enc) ((l.length/2:Nat):Int)=some (l[l.length/2].enc):=by rw[bl,aaf,aab hk];rfl
  have EP:x7 l=(l[l.length/2]).call:=by rw[x7,aab hk]
  refine ag hgt ?_;have t1:=p6 (n:=n) (l:=l.take (l.length/2)) (fun p hp=>hg p (aa1 hp)) (by rw[aaz];omega) (by rw[aaz];omega)
  have t2:=p6 (n:=n) (l:=l.drop (l.length/2)) (fun p hp=>hg p (abt hp)) (by rw[aa4];omega) (by rw[aa4];omega)
  have Lm:=mK (n:=n) h2;generalize di n (l.take (l.length/2))=lo at t1 Lm;generalize di n (l.drop (l.length/2))=hi at t2 Lm;refine⟨?_,?_⟩
  .show(2+((lo.map dB.enc).map fun ds=>ds.map CC.aa).length)*32<=_
   simp;omega
  refine⟨?_,?_⟩
  .show(([[CC.aa (.val (.int .i64 3)),.aa (.val (.int .i64 0)),.aa (.val (.int .i64 1)),.aa (.val (.int .i64 (l[l.length/2]).call))],[.aa (.val (.int .i64 5)),.aa (.val (.int .i64 0)),.aa (.val (.int .i64 0)),.aa (.val (.int .i64 (((lo.map dB.enc).length:Nat):Int)))]]++((lo.map dB.enc).map fun ds=>ds.map CC.aa)).length+((hi.map dB.enc).map fun ds=>ds.map CC.aa).length)*32<=_
   simp;omega
  have eO:some (Bk.row 4 (([[CC.aa (.val (.int .i64 3)),.aa (.val (.int .i64 0)),.aa (.val (.int .i64 1)),.aa (.val (.int .i64 (l[l.length/2]).call))],[.aa (.val (.int .i64 5)),.aa (.val (.int .i64 0)),.aa (.val (.int .i64 0)),.aa (.val (.int .i64 (((lo.map dB.enc).length:Nat):Int)))]]++((lo.map dB.enc).map fun ds=>ds.map CC.aa))++((hi.map dB.enc).map fun ds=>ds.map CC.aa)))=some (Bk.row 4 (((di (n+1) l).map dB.enc).map fun ds=>ds.map CC.aa)):=by rw[Lm,aad,EP];simp[dB.enc]
  exact .rv (.one (eI.eE eO 0 none))
def Tryz.Dl:Go.Shelf.Ren:=⟨fun|6=>31|15=>57|14=>56|28=>100|29=>101|20=>92|21=>93|22=>94|23=>95|24=>96|25=>97|26=>98|27=>99|46=>129|47=>130|48=>131|49=>132|50=>133|57=>151|n=>n,fun|22=>22|24=>65|25=>95|3=>3|39=>120|0=>0|53=>179|55=>181|4=>4|46=>173|45=>172|50=>53|5=>5|9=>9|66=>222|70=>226|76=>238|77=>100|n=>n,fun|n=>n⟩
theorem Tryz.P3:Go.Proofs.SlLaysF0.n6 Tryz.prog Tryz.Dl:={
 mixed:=by kernel_rfl,
 f6:=⟨ "slices.SortFunc[[]ringfence/api.Policy,ringfence/api.Policy]",by decide,Tryz.func31.trans (congrArg some (by kernel_rfl))⟩,
 f14:=⟨ "slices.pdqsortCmpFunc[ringfence/api.Policy]",by decide,Tryz.func56.trans (congrArg some (by kernel_rfl))⟩,
 f15:=Tryz.func57.trans (congrArg some (by kernel_rfl)),
 f20:=⟨ "slices.insertionSortCmpFunc[ringfence/api.Policy]",by decide,Tryz.func92.trans (congrArg some (by kernel_rfl))⟩,
 f21:=⟨ "slices.heapSortCmpFunc[ringfence/api.Policy]",by decide,Tryz.func93.trans (congrArg some (by kernel_rfl))⟩,
 f22:=⟨ "slices.breakPatternsCmpFunc[ringfence/api.Policy]",by decide,Tryz.func94.trans (congrArg some (by kernel_rfl))⟩,
 f23:=⟨ "slices.choosePivotCmpFunc[ringfence/api.Policy]",by decide,Tryz.func95.trans (congrArg some (by kernel_rfl))⟩,
 f24:=⟨ "slices.reverseRangeCmpFunc[ringfence/api.Policy]",by decide,Tryz.func96.trans (congrArg some (by kernel_rfl))⟩,
 f25:=⟨ "slices.partialInsertionSortCmpFunc[ringfence/api.Policy]",by decide,Tryz.func97.trans (congrArg some (by kernel_rfl))⟩,
 f26:=⟨ "slices.partitionEqualCmpFunc[ringfence/api.Policy]",by decide,Tryz.func98.trans (congrArg some (by kernel_rfl))⟩,
 f27:=⟨ "slices.partitionCmpFunc[ringfence/api.Policy]",by decide,Tryz.func99.trans (congrArg some (by kernel_rfl))⟩,
 f28:=Tryz.func100.trans (congrArg some (by kernel_rfl)),
 f29:=Tryz.func101.trans (congrArg some (by kernel_rfl)),
 f46:=⟨ "slices.siftDownCmpFunc[ringfence/api.Policy]",by decide,Tryz.func129.trans (congrArg some (by kernel_rfl))⟩,
 f47:=Tryz.func130.trans (congrArg some (by kernel_rfl)),
 f48:=Tryz.func131.trans (congrArg some (by kernel_rfl)),
 f49:=⟨ "slices.medianAdjacentCmpFunc[ringfence/api.Policy]",by decide,Tryz.func132.trans (congrArg some (by kernel_rfl))⟩,
 f50:=⟨ "slices.medianCmpFunc[ringfence/api.Policy]",by decide,Tryz.func133.trans (congrArg some (by kernel_rfl))⟩,
 f57:=⟨ "slices.order2CmpFunc[ringfence/api.Policy]",by decide,Tryz.func151.trans (congrArg some (by kernel_rfl))⟩,
 t0:=Tryz.underlying0,
 a0:=Tryz.isAgg0,
 z0:=Tryz.sizeOf0,
 v0:=Tryz.zeroValue0,
 t3:=Tryz.underlying3,
 a3:=Tryz.isAgg3,
 z3:=Tryz.sizeOf3,
 v3:=Tryz.zeroValue3,
 t4:=Tryz.underlying4,
 a4:=Tryz.isAgg4,
 z4:=Tryz.sizeOf4,
 v4:=Tryz.zeroValue4,
 t5:=Tryz.underlying5,
 a5:=Tryz.isAgg5,
 z5:=Tryz.sizeOf5,
 v5:=Tryz.zeroValue5,
 t9:=Tryz.underlying9,
 a9:=Tryz.isAgg9,
 z9:=Tryz.sizeOf9,
 v9:=Tryz.zeroValue9,
 t22:=Tryz.underlying22,
 a22:=Tryz.isAgg22,
 z22:=Tryz.sizeOf22,
 v22:=Tryz.zeroValue22,
 t25:=Tryz.underlying95,
 a25:=Tryz.isAgg95,
 z25:=Tryz.sizeOf95,
 v25:=Tryz.zeroValue95,
 t39:=Tryz.underlying120,
 a39:=Tryz.isAgg120,
 z39:=Tryz.sizeOf120,
 v39:=Tryz.zeroValue120,
 t45:=Tryz.underlying172,
 a45:=Tryz.isAgg172,
 z45:=Tryz.sizeOf172,
 v45:=Tryz.zeroValue172,
 t46:=Tryz.underlying173,
 a46:=Tryz.isAgg173,
 z46:=Tryz.sizeOf173,
 v46:=Tryz.zeroValue173,
 t50:=Tryz.underlying53,
 a50:=Tryz.isAgg53,
 z50:=Tryz.sizeOf53,
 v50:=Tryz.zeroValue53,
 t53:=Tryz.underlying179,
 a53:=Tryz.isAgg179,
 z53:=Tryz.sizeOf179,
 v53:=Tryz.zeroValue179,
 t55:=Tryz.underlying181,
 a55:=Tryz.isAgg181,
 z55:=Tryz.sizeOf181,
 v55:=Tryz.zeroValue181,
 t66:=Tryz.underlying222,
 a66:=Tryz.isAgg222,
 z66:=Tryz.sizeOf222,
 v66:=Tryz.zeroValue222,
 t70:=Tryz.underlying226,
 a70:=Tryz.isAgg226,
 z70:=Tryz.sizeOf226,
 v70:=Tryz.zeroValue226,
 t76:=Tryz.underlying238,
 a76:=Tryz.isAgg238,
 z76:=Tryz.sizeOf238,
 v76:=Tryz.zeroValue238,
 t77:=Tryz.underlying100,
 a77:=Tryz.isAgg100,
 z77:=Tryz.sizeOf100,
 v77:=Tryz.zeroValue100}
def Tryz.Gn:Go.Shelf.Ren:=⟨fun|5=>33|7=>58|n=>n,fun|22=>3|3=>3|4=>4|n=>n,fun|n=>n⟩
theorem Tryz.S3:Go.Proofs.SlLaysC2.n5 Tryz.prog Tryz.Gn:={
 mixed:=by kernel_rfl,
 f5:=⟨ "cmp.Compare[int]",by decide,Tryz.func33.trans (congrArg some (by kernel_rfl))⟩,
 f7:=⟨ "cmp.isNaN[int]",by decide,Tryz.func58.trans (congrArg some (by kernel_rfl))⟩,
 t3:=Tryz.underlying3,
 a3:=Tryz.isAgg3,
 z3:=Tryz.sizeOf3,
 v3:=Tryz.zeroValue3,
 t4:=Tryz.underlying4,
 a4:=Tryz.isAgg4,
 z4:=Tryz.sizeOf4,
 v4:=Tryz.zeroValue4,
 t22:=Tryz.underlying3,
 a22:=Tryz.isAgg3,
 z22:=Tryz.sizeOf3,
 v22:=Tryz.zeroValue3}
open Go.Shelf Go.Lib Go.Sort in
def Xu(x:bU×(Option Addr×Nat×Nat)):List Value:=[.int .i64 x.1.call,.slice x.2.1 x.2.2.1 x.2.2.2]
instance Xv:Inhabited bU:=⟨⟨0,[]⟩⟩
open Go.Shelf Go.Lib Go.Sort in
theorem NL(a b:Int)(s1 s2:Option Addr)(n1 n2 k1 k2:Nat)(W:World):Calls Tryz.prog 32 #[.agg #[.int .i64 a,.slice s1 n1 k1],.agg #[.int .i64 b,.slice s2 n2 k2]] W fun e w'=>e= .returned (.int .i64 (Lib.compareInt a b))/\∃q os',w'=Sort.grow (W.drewN q) os':=by
 have hcon:=fun W'=>AnyG.cmp_Compare_int Tryz.S3 a b W'
 change ∀W',Calls Tryz.prog 33 _ _ _ at hcon;generalize Lib.compareInt a b=r at hcon⊢
 go_enter Tryz.func32,Tryz.ntmps32
 go_wp2_with (go_at_call 33;refine(hcon _).mono ?_;rintro e w' ⟨rfl,rfl⟩)
 go_ret
 exact⟨rfl,0,_,by rw[Sort.alloc_eq_grow,Sort.alloc_eq_grow,Sort.grow_grow];rfl⟩
open Go.Shelf Go.Lib Go.Sort in
theorem P4(x y:bU×(Option Addr×Nat×Nat)):ltOf (fun x y:bU×(Option Addr×Nat×Nat)=>Lib.compareInt x.1.call y.1.call) x y=decide (x.1.call<y.1.call):=by
 unfold ltOf Lib.compareInt;by_cases h1:x.1.call<y.1.call
 .simp[h1]
 .by_cases h2:y.1.call<x.1.call<;>simp[h1,h2]
open Go.Shelf Go.Lib Go.Sort in
theorem Z4:SWO (ltOf fun x y:bU×(Option Addr×Nat×Nat)=>Lib.compareInt x.1.call y.1.call) where
 irrefl x:=by rw[P4];simp
 trans x y z h1 h2:=by rw[P4]at*;simp at*;omega
 ntrans x y z h1 h2:=by rw[P4]at*;simp at*;omega
open Go.Shelf Go.Lib Go.Sort in
theorem NM(l:List bU)(hne:l≠[])(hl:l.length<=4194304){m:Mem}{id:Nat}(hb:df m id=some (.row 2 (af (l.map bU.enc)))){K:CV->Mem->Prop}(h:∀l':List bU,l'.Perm l->l'.Pairwise (fun a b=>¬b.call<a.call)->K (.bF []) (ba m id (.row 2 (af (l'.map bU.enc))))):ar Tryz.prog 31 [.rv (.one (.row id 2 0 none)),.rv (.one (.fn 32 []))] m K:=by
 refine⟨⟨Tryz.f31,Tryz.func31,rfl,by decide⟩,fun ρ w vs hM hvl hd=>?_⟩
 obtain⟨v0,h0,d0⟩:=hd 0 _ rfl;obtain⟨v1,h1,d1⟩:=hd 1 _ rfl;have hvs:vs=[v0,v1]:=by
  match vs,hvl with
  | [a,b],_=>simp at h0 h1;rw[h0,h1]
 rw[aX]at hb;obtain⟨hid,_,_,hlc,hcm,a,hv0,ha⟩:=(show bz ρ w none (.row id 2 0 none) v0 from d0);obtain⟨_,hv1⟩:=(show bz ρ w none (.fn 32 []) v1 from d1);obtain⟨hln,_,_,hsz,hcu⟩:=hM.bk id _ hb;have hlen:(ρ.aR (.au id)).len=l.length:=by rw[<-hln];simp[af]
 have hpos:0<l.length:=acB.2 hne;have hcap:0<(ρ.aR (.au id)).cap:=om;obtain⟨cur,hcur,hcsz,hcells⟩:=hcu hcap;have ha:=ha hcap;have hel:∀i(hi:i<l.length),∃x:Option Addr×Nat×Nat,cur[(ρ.aR (.au id)).ax+i*2+0]? =some (.int .i64 l[i].call)/\cur[(ρ.aR (.au id)).ax+i*2+1]? =some (.slice x.1 x.2.1 x.2.2)/\
   dz ρ.S w (.sl 2 (l[i].aN.map gl.enc)) (.slice x.1 x.2.1 x.2.2):=by
  intro i hi;have hri:(af (l.map bU.enc))[i]? =some (l[i].enc.map .aa):=by simp[af,hi]
  obtain⟨u,hu,hdu⟩:=hcells i _ 0 _ hri rfl;obtain⟨u1,hu1,hdu1⟩:=hcells i _ 1 _ hri rfl;have e0:u= .int .i64 l[i].call:=by
   have hdu:dz ρ.S w (.val (.int .i64 l[i].call)) u:=hdu;cases hdu with
   |val _ _=>rfl
  have hdu1:dz ρ.S w (.sl 2 (l[i].aN.map gl.enc)) u1:=hdu1;obtain⟨b,n,c,e1⟩:∃b n c,u1=Value.slice b n c:=by
   generalize l[i].aN.map gl.enc=E at hdu1;cases hdu1 with
   |nil _ b c _=>exact⟨_,_,_,rfl⟩
   |sl _ _ b off c u _ _ _ _ _ _=>exact⟨_,_,_,rfl⟩
  subst e0 e1;exact⟨(b,n,c),hu,hu1,hdu1⟩
 obtain⟨X,hX⟩:∃X:Nat->Option Addr×Nat×Nat,∀i(hi:i<l.length),cur[(ρ.aR (.au id)).ax+i*2+0]? =some (.int .i64 l[i].call)/\cur[(ρ.aR (.au id)).ax+i*2+1]? =some (.slice (X i).1 (X i).2.1 (X i).2.2)/\
   dz ρ.S w (.sl 2 (l[i].aN.map gl.enc)) (.slice (X i).1 (X i).2.1 (X i).2.2):=
  ⟨fun i=>if hi:i<l.length then Classical.choose (hel i hi)else(none,0,0),fun i hi=>by have:=Classical.choose_spec (hel i hi);simp only[dif_pos hi];exact this⟩
 obtain⟨d,hdd⟩:∃d:Array (bU×(Option Addr×Nat×Nat)),d=(l.zipIdx.map fun p=>(p.1,X p.2)).toArray:=⟨_,rfl⟩
 have hds:d.size=l.length:=by simp[hdd]
 have hdg:∀i(hi:i<l.length),d[i]! =(l[i],X i):=by intro i hi;rw[getElem!_pos d i om];simp[hdd]
 have hdl:d.toList.map Prod.fst=l:=by rw[hdd,List.toList_toArray,abd];exact List.zipIdx_map_fst 0 l
 have hH:HoldsK Xu 2 w (ρ.aR (.au id)).b (ρ.aR (.au id)).ax d:=by
  intro j hj;rw[size_flatK,hds]at hj;have hi:j/2<l.length:=om;obtain⟨g0,g1,_⟩:=hX (j/2) hi;have hc:l.length*2<=(ρ.aR (.au id)).cap*2:=om;rw[hcur.cell,get_flatK _ _ _ _ (by rw[hds];exact hj),hdg _ hi]
  refine⟨?_,hcur.iU om⟩;rcases Nat.mod_two_eq_zero_or_one j with e|e
  .rw[e,show(ρ.aR (.au id)).ax+j=(ρ.aR (.au id)).ax+j/2*2+0 by omega,g0];rfl
  .rw[e,show(ρ.aR (.au id)).ax+j=(ρ.aR (.au id)).ax+j/2*2+1 by omega,g1];rfl
 have eg:∀args w,(callFunc 32 args).run Tryz.prog w= .ok (.enter 32 args) w:=enters_of Tryz.func32 (by kernel_rfl) rfl
 have hblk:(ρ.aR (.au id)).b<w.heap.size:=hcur.lt;have hcon:=AnyQ.slices_SortFunc Tryz.P3 2 Tryz.isAgg65 Tryz.sizeOf65 Xu (fun _=>rfl) (fun x v hv=>by simp[Xu]at hv;rcases hv with rfl|rfl<;>rfl) (fun x y=>Lib.compareInt x.1.call y.1.call) Z4 32 #[] (ρ.aR (.au id)).b (ρ.aR (.au id)).ax (ρ.aR (.au id)).cap d w eg
  (fun _ _ _ _ x y=>NL x.1.call y.1.call x.2.1 y.2.1 x.2.2.1 y.2.2.1 x.2.2.2 y.2.2.2 _) hH hblk om
 change Calls Tryz.prog 31 _ _ _ at hcon;have hargs:vs.toArray= #[.slice (some ⟨(ρ.aR (.au id)).b,(ρ.aR (.au id)).ax,none⟩) d.size (ρ.aR (.au id)).cap,.func (.func 32) #[] #[]]:=by rw[hvs,hv0,hv1,ha,hds,<-hlen];simp
 rw[hargs];refine hcon.mono ?_;rintro e w' ⟨rfl,d',n,os,hp,hs,rfl⟩;obtain⟨hp1,_,hp2⟩:=hp;have hp2:d'.toList.Perm d.toList:=by
  have e1:d'.extract 0 d.size=d':=by rw[<-hp1];simp
  have e2:d.extract 0 d.size=d:=aG;rw[e1,e2]at hp2;exact hp2
 have hperm:(d'.toList.map Prod.fst).Perm l:=by have:=hp2.map Prod.fst;rwa [hdl]at this
 have hll:(d'.toList.map Prod.fst).length=l.length:=hperm.length_eq;have hsort:(d'.toList.map Prod.fst).Pairwise (fun a b=>¬b.call<a.call):=by
  rw[abi];intro i j hi hj hij;have hj2:j<d'.size:=by simpa using hj
  have:=hs i j (aao _) hij om;rw[P4,getElem!_pos d' i om,getElem!_pos d' j hj2]at this;simpa using this
 have hmem:∀i,i<d'.size->∃k,∃hk:k<l.length,d'[i]! =(l[k],X k):=by
  intro i hi;have:d'[i]! ∈d.toList:=by rw[<-hp2.mem_iff,getElem!_pos d' i hi];exact acp.2 (Array.getElem_mem hi)
  obtain⟨k,hk⟩:=aam this;obtain⟨hk1,hk2⟩:=aac.1 hk;have hk1:k<d.size:=by simpa using hk1
  refine⟨k,om,?_⟩;rw[<-hdg k om,getElem!_pos d k hk1,<-hk2];simp
 have hb2:=hb;obtain⟨hM',hX'⟩:=IJ (lE:=af ((d'.toList.map Prod.fst).map bU.enc)) (F:=flatK Xu 2 d') hM hb (by simpa[af]using hpos) (by simp[af];omega) (fun cs hcs=>by
   simp only[af,aay]at hcs;obtain⟨x,⟨p,_,rfl⟩,rfl⟩:=hcs;rfl) (by rw[size_flatK];simp[af];omega) (fun cs hcs c hc=>by
   simp only[af,aay]at hcs;obtain⟨x,_,rfl⟩:=hcs;obtain⟨d,_,rfl⟩:=aay.1 hc;exact⟨d,rfl⟩) (fun i cs j c hi hj=>by
   simp only[af,aaf]at hi;cases ho:d'.toList[i]? with
   |none=>rw[ho]at hi;simp at hi
   |some y=>
    rw[ho]at hi;simp only[aaC,aaA]at hi;subst hi;have hid':i<d'.size:=by have:=(aac.1 ho).1;simpa using this
    have hy:d'[i]! =y:=by rw[getElem!_pos d' i hid'];have:=(aac.1 ho).2;simpa using this
    obtain⟨k,hk,hyk⟩:=hmem i hid';rw[hy]at hyk;subst hyk;have hj2:j<2:=by have:=(aac.1 hj).1;simpa[bU.enc]using this
    rw[get_flatK _ _ _ _ om,show(i*2+j)/2=i by omega,show(i*2+j)%2=j by omega,hy]
    match j,hj2,hj with
    |0,_,hj=>cases hj;exact dz.val _ rfl
    |1,_,hj=>cases hj;exact(hX k hk).2.2) n os
 rw[<-bn]at hM' hX';exact⟨_,.bF [],_,ρ,rfl,h _ hperm hsort,hM',⟨[],rfl,rfl,aG⟩,hX'⟩
def c20:LF:= ⟨22,[.tmp 2,.cell true 2 3],(.seq (.ai [qu 2 (.aD qe),qu 3 (.alloc [(qd 0),(qd 0)])]) (.seq (.seq (.ai [qm 6 0,qu 7 (qc 29 [6]),qu 4 (.alloc [(qd 0),(qd 0)]),qw (.store 2 4 7)]) (.seq (.ai [qf 8 0 4,ql 9 8,qu 10 (.aF .neq 9 (qi 0))]) (.cond 10 (.seq (.bQ [qL 11 2 4,qu 2 (.aD qe),qw (.store 2 3 11)] [(.cons 0 none (.cons 1 none (.cons 2 (some []) .nil)))]) .ret) .skip))) (.seq (.ai [qm 12 0,qu 13 (qc 30 [12]),qm 5 13]) (.seq (.ai [qm 14 5,qu 15 (qc 31 [14,(.c (.rv (.one (.fn 32 []))))])]) (.seq (.ai [qu 16 (.build [(qd 0),(qd 0),(qd 0),(qd 0)] [(0,1,(qi 1))]),qu 17 (.mh 4 [(qd 0),(qd 0),(qd 0),(qd 0)] 1 [(0,16)]),qm 18 5,qu 19 (qc 34 [18]),qu 20 (.nO 4 32 17 19),qu 21 (.build [(qd 0),(qd 0)] []),qm 2 20,qw (.store 2 3 21)]) .ret)))))⟩
def c30:LF:= ⟨8,[.tmp 2],(.seq (.ai [qu 2 (.aD qe)]) (.seq (.seq (.ai [qm 3 0,qu 4 (.xJ false 3)]) (.cond 4 (.seq (.ai [qu 2 (.aD qe)]) .ret) .skip)) (.seq (.ai [qu 5 (.mh 2 [(qd 0),.aI] 0 []),qm 6 0,qu 7 (.nO 2 32 5 6),qm 2 7]) .ret)))⟩
def c31:LF:= ⟨14,[],(.seq (.ai [qm 5 0,qu 6 (.len 1 5),qm 4 6]) (.ai [qm 7 0,qm 8 4,qm 9 4,qu 10 (.conv .u64 9),qu 11 (qc 57 [10]),qm 12 1,qu 13 (qc 56 [7,(qi 0),8,11,12])]))⟩
def c56:LF:= ⟨148,[],(.seq (.ai [qu 10 (.aD (qb true))]) (.seq (.ai [qu 11 (.aD (qb true))]) (.block 0 (.loop (.block 1 (.seq (.ai [qm 21 2,qm 22 1,qu 23 (.aF .sub 21 22),qm 12 23]) (.seq (.seq (.ai [qm 24 12,qu 25 (.aF .leq 24 (qi 12))]) (.cond 25 (.seq (.ai [qm 26 0,qm 27 1,qm 28 2,qm 29 4,qu 30 (qc 92 [26,27,28,29])]) .ret) .skip)) (.seq (.seq (.ai [qm 31 3,qu 32 (.aF .eql 31 (qi 0))]) (.cond 32 (.seq (.ai [qm 33 0,qm 34 1,qm 35 2,qm 36 4,qu 37 (qc 93 [33,34,35,36])]) .ret) .skip)) (.seq (.seq (.ai [qm 38 10,qu 39 (.un .not 38)]) (.cond 39 (.seq (.ai [qm 40 0,qm 41 1,qm 42 2,qm 43 4,qu 44 (qc 94 [40,41,42,43])]) (.ai [qm 45 3,qu 46 (.aF .sub 45 (qi 1)),qm 3 46])) .skip)) (.seq (.ai [qm 48 0,qm 49 1,qm 50 2,qm 51 4,qu 52 (qc 95 [48,49,50,51]),qm 47 52,qu 53 (.ext 47 0),qu 54 (.ext 47 1),qm 13 53,qm 14 54]) (.seq (.seq (.ai [qm 55 14,qu 56 (.aF .eql 55 (qi 2))]) (.cond 56 (.seq (.ai [qm 57 0,qm 58 1,qm 59 2,qm 60 4,qu 61 (qc 96 [57,58,59,60])]) (.seq (.ai [qm 62 2,qu 63 (.aF .sub 62 (qi 1)),qm 64 13,qm 65 1,qu 66 (.aF .sub 64 65),qu 67 (.aF .sub 63 66),qm 13 67]) (.ai [qu 14 (.aD (qi 1))]))) .skip)) (.seq (.seq (.ai [qm 68 10,qm 69 68,qg 70 (.aD 11) 69 true,qu 71 (.pick 69 70 (qb false)),qm 72 71,qg 73 (.aD 14) 72 true,qg 74 (.aF .eql 73 (qi 1)) 72 true,qu 75 (.pick 72 74 (qb false))]) (.cond 75 (.seq (.ai [qm 76 0,qm 77 1,qm 78 2,qm 79 4,qu 80 (qc 97 [76,77,78,79])]) (.cond 80 .ret .skip)) .skip)) (.seq (.seq (.bQ [qm 81 1,qu 82 (.aF .gtr 81 (qi 0)),qm 83 82,qg 84 (.aD 4) 83 true,qg 85 (.aD 0) 83 true,qg 86 (.aD 1) 83 true,qg 87 (.aF .sub 86 (qi 1)) 83 true,qg 88 (.bO 2 85 87) 83 true,qg 89 (.load true 2 88) 83 true,qg 90 (.aD 0) 83 true,qg 91 (.aD 13) 83 true,qg 92 (.bO 2 90 91) 83 true,qg 93 (.load true 2 92) 83 true,qg 94 (.call 84 [89,93]) 83 true,qg 95 (.aF .lss 94 (qi 0)) 83 true,qg 96 (.un .not 95) 83 true,qu 97 (.pick 83 96 (qb false))] [(.cons 0 none (.cons 1 none (.cons 2 none (.cons 3 none (.cons 4 none (.cons 5 none (.cons 6 none (.cons 7 none (.cons 8 none (.cons 9 none (.cons 10 none (.cons 11 none (.cons 12 none (.cons 13 (some []) (.cons 14 none (.cons 15 none (.cons 16 none .nil)))))))))))))))))]) (.cond 97 (.seq (.ai [qm 98 0,qm 99 1,qm 100 2,qm 101 13,qm 102 4,qu 103 (qc 98 [98,99,100,101,102]),qm 15 103]) (.seq (.ai [qm 104 15,qm 1 104]) (.exit 1))) .skip)) (.seq (.ai [qm 106 0,qm 107 1,qm 108 2,qm 109 13,qm 110 4,qu 111 (qc 99 [106,107,108,109,110]),qm 105 111,qu 112 (.ext 105 0),qu 113 (.ext 105 1),qm 16 112,qm 17 113]) (.seq (.ai [qm 114 17,qm 11 114]) (.seq (.ai [qm 115 16,qm 116 1,qu 117 (.aF .sub 115 116),qm 118 2,qm 119 16,qu 120 (.aF .sub 118 119),qm 18 117,qm 19 120]) (.seq (.ai [qm 121 12,qu 122 (.aF .quo 121 (qi 8)),qm 20 122]) (.seq (.ai [qm 123 18,qm 124 19,qu 125 (.aF .lss 123 124)]) (.cond 125 (.seq (.ai [qm 126 18,qm 127 20,qu 128 (.aF .geq 126 127),qm 10 128]) (.seq (.ai [qm 129 0,qm 130 1,qm 131 16,qm 132 3,qm 133 4,qu 134 (qc 56 [129,130,131,132,133])]) (.ai [qm 135 16,qu 136 (.aF .add 135 (qi 1)),qm 1 136]))) (.seq (.ai [qm 137 19,qm 138 20,qu 139 (.aF .geq 137 138),qm 10 139]) (.seq (.ai [qm 140 0,qm 141 16,qu 142 (.aF .add 141 (qi 1)),qm 143 2,qm 144 3,qm 145 4,qu 146 (qc 56 [140,142,143,144,145])]) (.ai [qm 147 16,qm 2 147]))))))))))))))))))))))⟩
def c57:LF:= ⟨8,[.tmp 2],(.seq (.ai [qu 2 (.aD (qi 0))]) (.seq (.cond (qb false) (.seq (.ai [qm 3 0,qu 4 (.conv .u32 3),qu 5 (qc 100 [4]),qm 2 5]) .ret) .skip) (.seq (.ai [qm 6 0,qu 7 (qc 101 [6]),qm 2 7]) .ret)))⟩
def c92:LF:= ⟨53,[],(.seq (.ai [qm 10 1,qu 11 (.aF .add 10 (qi 1)),qm 8 11]) (.block 0 (.loop (.seq (.seq (.ai [qm 12 8,qm 13 2,qu 14 (.aF .lss 12 13)]) (.cond 14 .skip (.exit 0))) (.seq (.block 1 (.seq (.ai [qm 17 8,qm 9 17]) (.block 2 (.loop (.seq (.seq (.bQ [qm 18 9,qm 19 1,qu 20 (.aF .gtr 18 19),qm 21 20,qg 22 (.aD 3) 21 true,qg 23 (.aD 0) 21 true,qg 24 (.aD 9) 21 true,qg 25 (.bO 2 23 24) 21 true,qg 26 (.load true 2 25) 21 true,qg 27 (.aD 0) 21 true,qg 28 (.aD 9) 21 true,qg 29 (.aF .sub 28 (qi 1)) 21 true,qg 30 (.bO 2 27 29) 21 true,qg 31 (.load true 2 30) 21 true,qg 32 (.call 22 [26,31]) 21 true,qg 33 (.aF .lss 32 (qi 0)) 21 true,qu 34 (.pick 21 33 (qb false))] [(.cons 0 none (.cons 1 none (.cons 2 none (.cons 3 none (.cons 4 none (.cons 5 none (.cons 6 none (.cons 7 none (.cons 8 none (.cons 9 none (.cons 10 none (.cons 11 none (.cons 12 none (.cons 13 none (.cons 14 (some []) (.cons 15 none (.cons 16 none .nil)))))))))))))))))]) (.cond 34 .skip (.exit 2))) (.seq (.block 3 (.bQ [qm 37 0,qm 38 9,qm 39 0,qm 40 9,qu 41 (.aF .sub 40 (qi 1)),qm 42 0,qm 43 9,qu 44 (.aF .sub 43 (qi 1)),qu 45 (.bO 2 42 44),qL 46 2 45,qm 47 0,qm 48 9,qu 49 (.bO 2 47 48),qL 50 2 49,qu 51 (.bO 2 37 38),qw (.store 2 51 46),qu 52 (.bO 2 39 41),qw (.store 2 52 50)] [(.cons 0 none (.cons 1 none (.cons 2 none (.cons 3 none (.cons 4 none (.cons 5 none (.cons 6 none (.cons 7 none (.cons 8 none (.cons 9 none (.cons 10 none (.cons 11 none (.cons 12 none (.cons 13 none (.cons 14 none (.cons 15 (some []) (.cons 16 none (.cons 17 (some []) .nil))))))))))))))))))])) (.ai [qm 35 9,qu 36 (.aF .sub 35 (qi 1)),qm 9 36]))))))) (.ai [qm 15 8,qu 16 (.aF .add 15 (qi 1)),qm 8 16]))))))⟩
def c101:LF:= ⟨25,[.tmp 2],(.seq (.ai [qu 2 (.aD (qi 0))]) (.seq (.seq (.ai [qm 3 0,qu 4 (.aF .geq 3 (.c (.rv (.one (.aa (.val (.int .u64 (4294967296))))))))]) (.cond 4 (.seq (.ai [qm 5 0,qu 6 (.aF .shr 5 (.c (.rv (.one (.aa (.val (.int .u64 (32)))))))),qm 0 6]) (.ai [qu 2 (.aD (qi 32))])) .skip)) (.seq (.seq (.ai [qm 7 0,qu 8 (.aF .geq 7 (.c (.rv (.one (.aa (.val (.int .u64 (65536))))))))]) (.cond 8 (.seq (.ai [qm 9 0,qu 10 (.aF .shr 9 (.c (.rv (.one (.aa (.val (.int .u64 (16)))))))),qm 0 10]) (.ai [qm 11 2,qu 12 (.aF .add 11 (qi 16)),qm 2 12])) .skip)) (.seq (.seq (.ai [qm 13 0,qu 14 (.aF .geq 13 (.c (.rv (.one (.aa (.val (.int .u64 (256))))))))]) (.cond 14 (.seq (.ai [qm 15 0,qu 16 (.aF .shr 15 (.c (.rv (.one (.aa (.val (.int .u64 (8)))))))),qm 0 16]) (.ai [qm 17 2,qu 18 (.aF .add 17 (qi 8)),qm 2 18])) .skip)) (.seq (.ai [qm 19 2,qm 20 0,qu 21 (.conv .u8 20),qu 22 (.Bv (.c (.rv (.one (.aa (.val (.string ⟨#[0,1,2,2,3,3,3,3,4,4,4,4,4,4,4,4,5,5,5,5,5,5,5,5,5,5,5,5,5,5,5,5,6,6,6,6,6,6,6,6,6,6,6,6,6,6,6,6,6,6,6,6,6,6,6,6,6,6,6,6,6,6,6,6,7,7,7,7,7,7,7,7,7,7,7,7,7,7,7,7,7,7,7,7,7,7,7,7,7,7,7,7,7,7,7,7,7,7,7,7,7,7,7,7,7,7,7,7,7,7,7,7,7,7,7,7,7,7,7,7,7,7,7,7,7,7,7,7,8,8,8,8,8,8,8,8,8,8,8,8,8,8,8,8,8,8,8,8,8,8,8,8,8,8,8,8,8,8,8,8,8,8,8,8,8,8,8,8,8,8,8,8,8,8,8,8,8,8,8,8,8,8,8,8,8,8,8,8,8,8,8,8,8,8,8,8,8,8,8,8,8,8,8,8,8,8,8,8,8,8,8,8,8,8,8,8,8,8,8,8,8,8,8,8,8,8,8,8,8,8,8,8,8,8,8,8,8,8,8,8,8,8,8,8,8,8,8,8,8,8,8,8,8,8,8,8]⟩)))))) 21),qu 23 (.conv .i64 22),qu 24 (.aF .add 19 23),qm 2 24]) .ret)))))⟩
theorem l30:bs Tryz.prog Tryz.f30=some c30:=by kernel_rfl
theorem l31:bs Tryz.prog Tryz.f31=some c31:=by kernel_rfl
theorem l56:bs Tryz.prog Tryz.f56=some c56:=by kernel_rfl
theorem l57:bs Tryz.prog Tryz.f57=some c57:=by kernel_rfl
theorem l92:bs Tryz.prog Tryz.f92=some c92:=by kernel_rfl
theorem l101:bs Tryz.prog Tryz.f101=some c101:=by kernel_rfl
theorem l20:bs Tryz.prog Tryz.f20=some c20:=by kernel_rfl
theorem P5{m:Mem}{K:CV->Mem->Prop}(h:K (an .i64 0) m):ar Tryz.prog 101 [an .u64 0] m K:=
 bm (r0:=an .i64 0) Tryz.func101 l101 rfl (aak rfl) (show body Tryz.prog c101 [an .u64 0] [] (fun r m=>r=an .i64 0)from rfl) rfl rfl h
theorem S4{m:Mem}{K:CV->Mem->Prop}(h:K (an .i64 0) m):ar Tryz.prog 57 [an .u64 0] m K:=
 bm (r0:=an .i64 0) Tryz.func57 l57 rfl (aak rfl) (show body Tryz.prog c57 [an .u64 0] [] (fun r m=>r=an .i64 0)from P5 rfl) rfl rfl h
theorem Wr{m:Mem}{K:CV->Mem->Prop}(h:K (.bF []) m):ar Tryz.prog 92 [cS [],an .i64 0,an .i64 0,.rv (.one (.fn 32 []))] m K:=by
 refine bm (r0:= .bF []) Tryz.func92 l92 rfl (aak rfl) ?_ rfl rfl h;refine aO (fun _:Nat=>True) [0,1,2,3,8] (fun _=>[]) (fun _=>[]) (fun _=>0) 0 trivial ?_ (fun _ _=>?_)
 .refine View.o 0 [] [] ?_ (.nil _);repeat(first|exact .nil|refine .ap ?_|refine .eq rfl ?_)
 .rfl
theorem Ws{m:Mem}{K:CV->Mem->Prop}(h:K (.bF []) m):ar Tryz.prog 56 [cS [],an .i64 0,an .i64 0,an .i64 0,.rv (.one (.fn 32 []))] m K:=by
 refine bm (r0:= .bF []) Tryz.func56 l56 rfl (aak rfl) ?_ rfl rfl h;refine aO (fun _:Nat=>True) [0,1,2,3,4,10,11] (fun _=>[]) (fun _=>[]) (fun _=>0) 0 trivial ?_ (fun _ _=>?_)
 .refine View.o 0 [] [] ?_ (.nil _);repeat(first|exact .nil|refine .ap ?_|refine .eq rfl ?_)
 .refine Wr ?_;rfl
theorem P6{m:Mem}{K:CV->Mem->Prop}(h:K (.bF []) m):ar Tryz.prog 31 [cS [],.rv (.one (.fn 32 []))] m K:=by refine bm (r0:= .bF []) Tryz.func31 l31 rfl (aak rfl) ?_ rfl rfl h;refine S4 ?_;refine Ws ?_;rfl
theorem Dm(l:List bU)(hl:l.length<=4194304):body Tryz.prog c30 [cS l] [] (fun r m=>cJ m r (cS l)):=by
 have rR:((([]:List (List CC)).length+((l.map bU.enc).map fun ds=>ds.map CC.aa).length)*32)<=140737488355328:=by simp;omega
 refine aE (fun h=>?_) (fun h=>?_)
 .have hd:l=[]:=aat (by simpa using aav h)
  subst hd;exact⟨.rv (.one (.aI 2)),rR,.rv (.one (eI.eE rfl 0 none))⟩
 .exact⟨rR,.rv (.one (eI.eE rfl 0 none))⟩
theorem J5(l:List bU)(hl:l.length<=4194304){m:Mem}{K:CV->Mem->Prop}(h:K (cS l) m):ar Tryz.prog 30 [cS l] m K:=
 bb (aZ Tryz.func30 l30 (Dm l hl)) (by simp[cS,CV.dx,CC.dx]) fun r m1 hf=>⟨_,hf,h⟩
theorem AV(l:List bU)(eW:l≠[])(hl:l.length<=4194304):body Tryz.prog c30 [cS l] [] (fun r m=>∃r' m',View 0 ⟨[r],m⟩ ⟨[r'],m'⟩/\r'= .rv (.one (.row 0 2 0 none))/\m'=[.row 2 (af (l.map bU.enc))]):=by
 have rR:((([]:List (List CC)).length+((l.map bU.enc).map fun ds=>ds.map CC.aa).length)*32)<=140737488355328:=by simp;omega
 refine dZ ?_ ?_
 .have:(l.map bU.enc).length≠0:=by simp[eW]
  cases h:Nat.beq (l.map bU.enc).length 0 with
  |false=>rfl
  |true=>exact absurd (aav h) this
 .refine⟨rR,_,_,View.o 2 [1] [] (.eq rfl .nil) (.pt rfl rfl (.bV (by simp[af,cw])) (.nil _)),rfl,rfl⟩
theorem Gp(l:List bU)(eW:l≠[])(hl:l.length<=4194304){m:Mem}{K:CV->Mem->Prop}(h:K (.rv (.one (.row m.length 2 0 none))) (m++ [.row 2 (af (l.map bU.enc))])):ar Tryz.prog 30 [cS l] m K:=by
 refine bC [] m.length rfl rfl rfl rfl (args0:=[cS l]) rfl (fun i b' hi=>by simp at hi) (K0:=fun r m=>r= .rv (.one (.row 0 2 0 none))/\m=[.row 2 (af (l.map bU.enc))])
  (bN (aZ Tryz.func30 l30 (AV l eW hl)) fun r m1 h=>h) (fun r m1 hr=>?_)
 obtain⟨rfl,rfl⟩:=hr;refine⟨aao _,?_⟩;show K (.rv (.one (.row (m.length+(0-0)) 2 0 none))) (iI m [Bk.aQ _ _]);rw[cr,Bk.kn];exact h
theorem NO{m:Mem}{a b:RV}{f:Int×Int}(h:eP m a b):cJ m (.bF [a,.agg [.aa (.val (.int .i64 f.1)),.aa (.val (.int .i64 f.2))]]) (.bF [b,.agg [.aa (.val (.int .i64 f.1)),.aa (.val (.int .i64 f.2))]]):=by
 refine .bF rfl fun i r r' h1 h2=>?_
 match i,h1,h2 with
 |0,h1,h2=>cases h1;cases h2;exact h
 |1,h1,h2=>cases h1;cases h2;exact eP.self rfl
def P7(l:List dB)(f:Int×Int):CV:= .bF [.one (.aa (V2 l)),.agg [.aa (.val (.int .i64 f.1)),.aa (.val (.int .i64 f.2))]]
theorem J6(l:List bU):body Tryz.prog c20 [cS l] [] (fun r m=>((bX l).1≠0->cJ m r (P7 [] (bX l)))/\((bX l).1=0->∃l',l'.Perm l/\gW l'/\cJ m r (P7 (dy l') (0,0)))):=by
 refine NF l ?_;refine br (fun h=>?_) (fun h=>?_)
 .refine⟨trivial,?_⟩;have h:(bX l).1≠0:=h;exact⟨fun _=>NO (.one (.aI 4)),fun h0=>absurd h0 h⟩
 have h:(bX l).1=0:=h;obtain⟨TF,hg,hd⟩:=oF h;have nO:∀l':List bU,l'.Perm l->(1+(((di l'.length l').map dB.enc).map fun ds=>ds.map CC.aa).length)*32<=140737488355328:=by
  intro l' hp;have:=p6 (n:=l'.length) (l:=l') (fun p N8=>(hg p (hp.mem_iff.1 N8)).2.2.1) (by rw[hp.length_eq];exact TF) (aaj _)
  simp;omega
 by_cases eW:l=[]
 .subst eW;refine J5 [] (by decide) ?_
  refine P6 ?_;refine HL 0 [] (by decide) (by decide) aG ?_
  refine⟨by decide,fun h0=>absurd h h0,fun _=>⟨[],.refl _,.nil,NO (f:=(0,0)) (.one (eI.eE (ds:=(dy []).map dB.enc) rfl 0 none))⟩⟩
 .refine Gp l eW om ?_;refine NM l eW om rfl fun l' hp hs=>?_
  have hr:=J3 hs (x8 hp hd);have Ei:l'.length<=30:=by rw[hp.length_eq];exact TF
  refine mA (lK:=[cS l']) (m':=[.var [.aa (.val (.int .i64 0)),.aa (.val (.int .i64 0))],.var [.aa (.val (.int .i64 (bX l).1)),.aa (.val (.int .i64 (bX l).2))],.bh,.row 4 [[.aa (.val (.int .i64 1)),.aa (.val (.int .i64 0)),.aa (.val (.int .i64 0)),.aa (.val (.int .i64 0))]]])
   (View.o 4 [0,1,2,3] [2] (.put (qv.fv 2 (l'.map bU.enc) rfl rfl) .nil) (.pe rfl rfl rfl (.pe rfl rfl rfl (.bh (.pm rfl rfl rfl))))) ?_
  refine HL l'.length l' (aaj _) Ei (fun p N8=>(hg p (hp.mem_iff.1 N8)).2.2.1) ?_
  refine⟨nO l' hp,fun h0=>absurd h h0,fun _=>⟨l',hp,hr,NO (f:=(0,0)) (.one (eI.eE (ds:=(dy l').map dB.enc) ?_ 0 none))⟩⟩
  rfl
theorem HM(l:List bU){m:Mem}{K:CV->Mem->Prop}(h1:(bX l).1≠0->K (P7 [] (bX l)) m)(h2:(bX l).1=0->∀l':List bU,l'.Perm l->gW l'->K (P7 (dy l') (0,0)) m):ar Tryz.prog 20 [cS l] m K:=by
 refine bb (aZ Tryz.func20 l20 (J6 l)) (by simp[cS,CV.dx,CC.dx]) fun r m1 hf=>?_
 by_cases h:(bX l).1=0
 .obtain⟨l',hp,hr,hz⟩:=hf.2 h;exact⟨_,hz,h2 h l' hp hr⟩
 .exact⟨_,hf.1 h,h1 h⟩
def c28:LF:= ⟨10,[.cell true 3 0],(.seq (.ai [qu 0 (.alloc [.aI,.aI,.aI])]) (.seq (.ai [qu 1 (qc 51 []),qu 2 (.build [(qd 0),(qd 0)] []),qu 3 (.mh 2 [(qd 0),(qd 0)] 1 [(0,2)]),qu 4 (.build [(qd 0),(qd 0)] [(1,1,(qi 4095))]),qu 5 (.build [(.aa (.val (.bool false))),(qd 0),(qd 0)] [(0,1,(qb true)),(1,2,4)]),qu 6 (.mh 3 [(.aa (.val (.bool false))),(qd 0),(qd 0)] 1 [(0,5)]),qu 7 (.build [(.aa (.val (.bool false))),(.aa (.val (.bool false))),(qd 0),.aI] [(0,1,(qb true)),(3,1,6)]),qu 8 (.mh 4 [(.aa (.val (.bool false))),(.aa (.val (.bool false))),(qd 0),.aI] 1 [(0,7)]),qu 9 (.build [.aI,.aI,.aI] [(0,1,1),(1,1,3),(2,1,8)]),qw (.store 3 0 9)]) .ret))⟩
theorem l28:bs Tryz.prog Tryz.f28=some c28:=by kernel_rfl
def gO:Obj:=⟨2,[],[],⟨#[]⟩,-1,[],-1,1,0⟩
def bt:Kr:=⟨[gO],[⟨0,0⟩],[⟨true,false,0,[⟨true,0,4095⟩]⟩]⟩
theorem S5{m:Mem}{Z:Nat->Prop}{p:Option Nat}:jO m Z p [.aa (.val (.int .i64 2)),.aI,.aI,.aa (.val (.string ⟨#[]⟩)),.aa (.val (.int .i64 (-1))),.aI,.aa (.val (.int .i64 (-1))),.aa (.val (.int .i64 1)),.aa (.val (.int .i64 0))] gO.enc:=
 .cons (.aa _) (.cons (.aI 1) (.cons (.aI 2) (.cons (.aa _) (.cons (.aa _) (.cons (.aI 4) (.cons (.aa _) (.cons (.aa _) (.cons (.aa _) .nil))))))))
theorem NP:body Tryz.prog c51 [] [] (fun r m=>∃r' m',View 0 ⟨[r],m⟩ ⟨[r'],m'⟩/\r'=cg [gO]/\m'=[]):=
 ⟨_,[],View.o 1 [] [0] (.put (.rv (.one (.fv (gv.fv (Z:=fun k=>bq [0] k=true) (.cons S5 .nil) rfl rfl)))) .nil) (.nil _),rfl,rfl⟩
theorem S6{m:Mem}{K:CV->Mem->Prop}(h:K (cg [gO]) m):ar Tryz.prog 51 [] m K:=by
 refine bb (K0:=fun r m=>r=cg [gO]/\m=[]) (bN (aZ Tryz.func51 l51 NP) fun r m1 h=>h) aG fun r m1 hr=>?_
 obtain⟨rfl,rfl⟩:=hr;exact⟨_,cJ.self rfl,h⟩
theorem J7:body Tryz.prog c28 [] [] (fun r m=>∃r' m',View 0 ⟨[r],m⟩ ⟨[r'],m'⟩/\r'=dJ bt.l bt.ops bt.ps/\m'=[]):=by
 refine S6 ?_;refine⟨_,[],View.o 4 [] [1,2,3] (.put (pi.agg (.cons (.aQ (.aa _)) (.cons (.fv (gv.fv (Z:=fun k=>bq [1,2,3] k=true) (.cons (.cons (.aa _) (.cons (.aa _) .nil)) .nil) rfl rfl))
  (.cons (.fv (gv.fv (Z:=fun k=>bq [1,2,3] k=true) (.cons (.cons (.aa _) (.cons (.aa _) (.cons (.aa _) (.cons (gv.fv (.cons (.cons (.aa _) (.cons (.aa _) (.cons (.aa _) .nil))) .nil) rfl rfl) .nil)))) .nil) rfl rfl)) .nil)))) .nil) (.nil _),rfl,rfl⟩
theorem P8{m:Mem}{K:CV->Mem->Prop}(h:K (dJ bt.l bt.ops bt.ps) m):ar Tryz.prog 28 [] m K:=by
 refine bb (K0:=fun r m=>r=dJ bt.l bt.ops bt.ps/\m=[]) (bN (aZ Tryz.func28 l28 J7) fun r m1 h=>h) aG fun r m1 hr=>?_
 obtain⟨rfl,rfl⟩:=hr;exact⟨_,cJ.self rfl,h⟩
theorem w9:dE bt.l bt.ops bt.ps:=
 ⟨fun o ho=>by simp[bt]at ho;subst ho;exact⟨⟨⟨[],rfl⟩,⟨[],rfl⟩,fun q hq=>by simp[gO]at hq⟩,by simp[gO],by simp[gO],by simp[gO],fun q hq=>by simp[gO]at hq⟩,by simp[bt],by simp[bt],by simp[bt],fun p hp=>by simp[bt]at hp;subst hp;simp,by simp[bt]⟩
end Go.Proofs.YtojhmadmlnfpcaaGreatDoor
