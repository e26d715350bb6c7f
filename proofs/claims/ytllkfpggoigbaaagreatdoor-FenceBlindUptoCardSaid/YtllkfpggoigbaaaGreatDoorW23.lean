/- Part 23 of 23. -/
import Derived.Test.YtllkfpggoigbaaaGreatDoorW11
import Derived.Test.YtllkfpggoigbaaaGreatDoorW22
set_option linter.unusedVariables false
set_option linter.unusedSimpArgs false
set_option maxRecDepth 100000
set_option maxHeartbeats 0
namespace Go.Proofs.YtllkfpggoigbaaaGreatDoor
open Proofs.Tryz
open Go.AM Go.ChangeShapes Go.WideShapes Go.ChangeAt Go.RowKit
def c4:LF:=Cq prog f4 [[8,0],[11]] [[(.cons 1 none (.cons 2 none (eL 4 4 (.z7 (.cons 0 (some [7,5,2]) (.z7 (.cons 3 (some [7,5]) (.cons 8 none (.cons 9 (some [7,5,2]) (.cons 10 (some []) .nil)))) (.cons 9 (some [7,5,2]) (.cons 3 (some [7,5]) (.cons 8 none (.cons 10 (some []) .nil)))))) (.cons 9 (some [7,5,2]) (.cons 0 (some [7,5,2]) (.cons 3 (some [7,5]) (.cons 8 none (.cons 10 (some []) .nil)))))))))],[(eL 8 0 (.cons 8 (some []) (.cons 9 none .nil)))]]
namespace Kn
theorem l4N:bA prog f4=some c4.er:=by kernel_rfl
def NK(l:List Obj)(G:List Nat)(i:Nat):Bool:=match l[i]? with
 |some o=>o.ah==1&& !(decide (i∈G))
 |none=>false
def uQ(l:List Obj)(G:List Nat)(d:List (List Dt))(n:Nat):List Obj:=pL (λi=>decide (i<n)&&NK l G i) d l
theorem adh(l:List Obj)(G:List Nat)(d:List (List Dt)):uQ l G d 0=l:=by
 refine acq λi=>?_
 rw[uQ,dk];cases l[i]? with
 |none=>rfl
 |some o=>rw[aaS,pz aG]
theorem Vk(l:List Obj)(G:List Nat)(d:List (List Dt)):uQ l G d l.length=pL (NK l G) d l:=by
 refine acq λi=>?_
 rw[uQ,dk,dk];cases ho:l[i]? with
 |none=>rfl
 |some o=>
  have:=(Mp.1 ho).1;simp only[aaS,pO,this,decide_true,adJ]
theorem K7(l:List Obj)(G:List Nat)(d:List (List Dt))(n:Nat):(uQ l G d n).length=l.length:=jn l
theorem R0{l:List Obj}{G:List Nat}{d:List (List Dt)}{n:Nat}{o:Obj}(h:l[n]? =some o):(uQ l G d n)[n]? =some o:=by rw[uQ,dk,h,aaS,pz aG]
theorem R1{l:List Obj}{G:List Nat}{d:List (List Dt)}{n:Nat}{o:Obj}(h:l[n]? =some o):uQ l G d (n+1)=if(o.ah==1&& !(decide (n∈G)))=true then(uQ l G d n).set n {o with data:=d}else uQ l G d n:=by
 have hu:NK l G n=(o.ah==1&& !(decide (n∈G))):=by rw[NK,h]
 rw[<-hu];have hl:=(Mp.1 h).1;refine acq λi=>?_
 by_cases e:i=n
 .subst e;rw[uQ,dk,h];simp only[aaS,pO];by_cases hb:NK l G i=true
  .rw[if_pos hb,aal (by rw[K7];exact hl),if_pos (by simp[hb])]
  .rw[if_neg hb,R0 h,if_neg (by simp[hb])]
 .have e1:(if NK l G n=true then(uQ l G d n).set n {o with data:=d}else uQ l G d n)[i]? =(uQ l G d n)[i]? :=by
   split
   .rw[aap (λx=>e x.symm)]
   .rfl
  rw[e1,uQ,uQ,dk,dk];cases l[i]? with
  |none=>rfl
  |some x=>
   have:decide (i<n+1)=decide (i<n):=decide_eq_decide.2 om;simp only[aaS,pO,this]
def N2(pl:List Int)(cs:List Cl):List Cl:=cs.filter λc=>decide (c.aQ∈pl)
theorem R2{pl:List Int}{cs:List Cl}{i:Nat}{c:Cl}(h:cs[i]? =some c):N2 pl (cs.take (i+1))=N2 pl (cs.take i)++(if c.aQ∈pl then [c]else []):=by
 rw[N2,nt h,adE,aef,List.filter_nil,N2];congr 1;by_cases hm:c.aQ∈pl
 .rw[if_pos hm,if_pos (decide_eq_true hm)]
 .rw[if_neg hm,if_neg (by simp[hm])]
theorem ahW{G g:Prop}(h:(Unit->G)->g)(t:G):g:=h λ_=>t
theorem Vl(b:List Int)(hb:uN b)(cs:List Cl)(fF:No cs)(dt:List Int)(hdt:dt.length<=1048576):body Tryz.prog c4 [.rv (.one (.ai (.sl 1 (dH b)))),Nn cs,.rv (.one (.ai (.sl 1 (dH dt))))] [] (λr m=>r=ar true):=by
 refine Ns ?_;refine UH ?_;refine Uw Ux (λh=>absurd YD h) (λ_ l' _ _=>?_)
 generalize FL l'=prog;refine Nw b hb λk0 Ad=>?_
 refine Vh k0 Ad ?_;have hk:=Ad.uv;have hs:Su (dZ k0):=Ad.JY;generalize dZ k0=k at hk hs;have hlp:=hk.lp;have Zp:=hk.ll;have ia:=fF.l;refine ax (λi=>i<=k.ps.length) [1,2,7,36,37] (λi=>[(38,am .i64 (i:Nat)),(9,.rv (.one (.ptr 0 0))),(10,.rv (.one (.row 1 1 0 none)))]) (λi=>[kB k,.row 1 (aa ((Fe.nZ (pT k.ps i)).map Fe.iE))]) (λi=>k.ps.length-i) 0 (aad _) ?_ (λi hi=>?_)
 .refine View.trans (View.bv 10 1 2 rfl rfl rfl) (View.o1 3 [1,2] [] ?_)
  .exact .au
 have hi:i<=k.ps.length:=hi;refine an (λh=>?_) (λh=>?_)
 .have ay:i<k.ps.length:=by have h:(i:Int)<((k.ps.map aM.enc).length:Int):=h;rw[P2]at h;omega
  have hp:=xm ay;have hg:cH (k.ps.map aM.enc) (i:Nat)=some (k.ps[i].enc):=by rw[aY,Rn,hp];rfl
  have hz:=Ry hp;have OE:=KN k.ps i;generalize k.ps[i]=x at hp hg hz;obtain⟨aF,fenced,code,ap⟩:=x;refine af (x:=[.val (.bool aF),.val (.bool fenced),.val (.int .i64 code),ip ap]) hg ?_;cases aF<;>cases fenced
  rotate_right
  .have hz:pT k.ps (i+1)=pT k.ps i++ [i]:=hz;refine⟨by have e:=Zd (Fe.nZ (pT k.ps i));have e2:(Fe.nZ (pT k.ps i)).length=(pT k.ps i).length:=P2 _;simp only[bt,aaY,acg];omega,?_⟩
   refine⟨i+1,ay,(show k.ps.length-(i+1)<k.ps.length-i by omega),View.o2 5 [0,4] [] ?_⟩
   .exact .pt rfl rfl (.eq rfl (oN _)) (.pt rfl rfl (.bg (by rw[hz,show Fe.nZ (pT k.ps i++ [i])=Fe.nZ (pT k.ps i)++ [(i:Int)] by simp[Fe.nZ],Vj];rfl)) (.nil _))
  all_goals
   have hz:pT k.ps (i+1)=pT k.ps i++ []:=hz;rw[adn]at hz;refine⟨i+1,ay,(show k.ps.length-(i+1)<k.ps.length-i by omega),View.o2 3 [0,1] [] ?_⟩
   .exact .pt rfl rfl (.eq rfl (oN _)) (.pt rfl rfl (.bg (by rw[hz])) (.nil _))
 have iD:i=k.ps.length:=by have h:¬(i:Int)<((k.ps.map aM.enc).length:Int):=h;rw[P2]at h;omega
 subst iD;have NL:=KN k.ps k.ps.length;have ahX:(Fe.nZ (pT k.ps k.ps.length)).length<=8:=by unfold Fe.nZ;rw[P2];omega
 refine YJ hk (Fe.nZ (pT k.ps k.ps.length)) om rfl λL hL=>?_
 have hF:=Rz hk hs hL;have hG:=Fe.q8 hL.lt;have hGl:=Fe.uA k.l.length L k.l.length;generalize Fe.mX k.l.length L k.l.length=G at hG hGl;generalize Fe.nZ (pT k.ps k.ps.length)=pl at hF ahX;apply ahW
 .intro tail;refine⟨?_,?_⟩
  .refine⟨by repeat(first|exact trivial|exact rfl|refine⟨?_,?_⟩),?_⟩
   refine⟨?_,?_⟩
   .skip
    refine⟨by simp[bt,aa];omega,by repeat(first|exact trivial|exact rfl|refine⟨?_,?_⟩),by repeat(first|exact trivial|exact rfl|refine⟨?_,?_⟩),by repeat(first|exact trivial|exact rfl|refine⟨?_,?_⟩),?_⟩
    refine bW [1,2,7,9,10,13] [(14,.rv (.one (.ptr 3 0)))] [kB k,.row 1 (aa (pl.map Fe.iE)),.row 9 (aa (k.l.map Obj.enc)),.var [.row 2 9 0 none,.ai (de k.ops),.ai (dM k.ps)]] (View.o1 5 [0,1,3,4] [] ?_) ?_
    .exact .pt rfl rfl (.eq rfl (oN _)) (.pr rfl rfl rfl (.pt rfl rfl (.bg (by simp[bt,aa])) (.pm rfl rfl rfl)))
    exact tail ()
   .skip
    refine⟨by repeat(first|exact trivial|exact rfl|refine⟨?_,?_⟩),by simp[bt,aa];omega,by repeat(first|exact trivial|exact rfl|refine⟨?_,?_⟩),by repeat(first|exact trivial|exact rfl|refine⟨?_,?_⟩),?_⟩
    refine bW [1,2,7,9,10,13] [(14,.rv (.one (.ptr 3 0)))] [kB k,.row 1 (aa (pl.map Fe.iE)),.row 9 (aa (k.l.map Obj.enc)),.var [.row 2 9 0 none,.ai (de k.ops),.ai (dM k.ps)]] (View.o1 5 [0,1,4,3] [] ?_) ?_
    .exact .pt rfl rfl (.eq rfl (oN _)) (.pr rfl rfl rfl (.pt rfl rfl (.bg (by simp[bt,aa])) (.pm rfl rfl rfl)))
    exact tail ()
  .refine⟨by repeat(first|exact trivial|exact rfl|refine⟨?_,?_⟩),?_⟩
   .skip
    refine⟨by repeat(first|exact trivial|exact rfl|refine⟨?_,?_⟩),by simp[bt,aa];omega,by repeat(first|exact trivial|exact rfl|refine⟨?_,?_⟩),by repeat(first|exact trivial|exact rfl|refine⟨?_,?_⟩),?_⟩
    refine bW [1,2,7,9,10,13] [(14,.rv (.one (.ptr 3 0)))] [kB k,.row 1 (aa (pl.map Fe.iE)),.row 9 (aa (k.l.map Obj.enc)),.var [.row 2 9 0 none,.ai (de k.ops),.ai (dM k.ps)]] (View.o1 5 [0,1,4,2] [] ?_) ?_
    .exact .pt rfl rfl (.eq rfl (oN _)) (.pr rfl rfl rfl (.pt rfl rfl (.bg (by simp[bt,aa])) (.pm rfl rfl rfl)))
    exact tail ()
 have Ze:∃b,dH (dt.take 60)=dH b:=⟨_,rfl⟩;have lF:(dH (dt.take 60)).length<=60:=by simp[dH];omega
 generalize OB:dH (dt.take 60)=dd at Ze lF;have sy:bt (dH dt) 0 (some (min dt.length 60))=dd:=by
  rw[<-OB];simp only[bt,dH,aer,adQ];rcases Nat.le_total dt.length 60 with h|h
  .rw[ael h,adm aG,adm (by simpa using h)]
  .rw[Nat.min_eq_right h]
 refine ax (λi=>i<=k.l.length) [1,2,7,9,10,13,14,67,68] (λi=>[(69,am .i64 (i:Nat))]) (λi=>[kB k,.row 1 (aa (pl.map Fe.iE)),.row 9 (aa ((uQ k.l G dd i).map Obj.enc)),.var [.row 2 9 0 none,.ai (de k.ops),.ai (dM k.ps)]]) (λi=>k.l.length-i) 0 (aad _) ?_ (λi hi=>?_)
 .refine View.o1 4 [0,1,2,3] [] ?_
  .exact .pt rfl rfl (.eq rfl (oN _)) (.pr rfl rfl rfl (.pt rfl rfl (.bg (by rw[adh])) (.pm rfl rfl rfl)))
 have hi:i<=k.l.length:=hi;have OT:=K7 k.l G dd i;have hrl:(aa ((uQ k.l G dd i).map Obj.enc)).length=k.l.length:=by rw[aJ,P2,OT]
 refine an (λh=>?_) (λh=>?_)
 .have ay:i<k.l.length:=by have h:(i:Int)<(((aa (k.l.map Obj.enc)).length:Nat):Int):=h;rw[aJ,P2]at h;omega
  have ho:=xm ay;have EF:=R1 (G:=G) (d:=dd) ho;have hba:=R0 (G:=G) (d:=dd) ho;generalize k.l[i]=o at ho EF hba;have m9:dW (i:Int) (lenOf (aa ((uQ k.l G dd i).map Obj.enc)).length 0 none)=some i:=bL (by show i<(aa ((uQ k.l G dd i).map Obj.enc)).length;omega)
  have RH:dp (aa ((uQ k.l G dd i).map Obj.enc)) i=some (o.enc.map .ai):=by have fh:i<(uQ k.l G dd i).length:=om;rw[bq Obj.enc _ fh];rw[xm fh]at hba;cases hba;rfl
  refine af m9 ?_;refine af RH ?_;refine bc (λh1=>?_) (λh1=>?_)
  .refine ahV G om (i:Nat) ?_;by_cases hm:((i:Nat):Int)∈Fe.nZ G
   .rw[decide_eq_true hm];have EF:uQ k.l G dd (i+1)=uQ k.l G dd i:=by rw[EF,if_neg (by simp[Fe.Dp.1 hm])]
    refine⟨i+1,ay,(show k.l.length-(i+1)<k.l.length-i by omega),View.o2 5 [0,1,2,3] [] ?_⟩
    .exact .pt rfl rfl (.eq rfl (oN _)) (.pr rfl rfl rfl (.pt rfl rfl (.bg (by rw[EF])) (.pm rfl rfl rfl)))
   .rw[decide_eq_false hm];have EF:uQ k.l G dd (i+1)=(uQ k.l G dd i).set i {o with data:=dd}:=by rw[EF,if_pos (by simp[h1];exact λh=>hm (Fe.Dp.2 h))]
    have hL:pV (am .i64 (if(60:Int)<((dH dt).length:Int)then(60:Int)else((dH dt).length:Int)))=some (min dt.length 60):=by
     have e:(dH dt).length=dt.length:=by simp[dH]
     have e2:(if(60:Int)<((dH dt).length:Int)then(60:Int)else((dH dt).length:Int))=((min dt.length 60:Nat):Int):=by
      rw[e];split<;>omega
     rw[e2];rfl
    refine af hL ?_;refine bS (by simp[ack,dH];omega) ?_
    refine af m9 ?_;refine af (x:= (dJ o (.ai (.sl 2 o.ag)) o.ak o.up)) RH ?_;refine⟨i+1,ay,(show k.l.length-(i+1)<k.l.length-i by omega),View.o2 5 [0,1,2,3] [] ?_⟩
    .refine .pt rfl rfl (.eq rfl (oN _)) (.pr rfl rfl rfl (.pt rfl rfl (.bg ?_) (.pm rfl rfl rfl)));show aZ _ (gl 0 i) [CC.ai (.val (.int .i64 o.ah)),CC.ai (.sl 1 (bt (dH dt) 0 (some (min dt.length 60)))),CC.ai (.sl 2 o.ag),CC.ai (.val (.string o.target)),CC.ai (.val (.int .i64 o.aI)),CC.ai (.sl 4 (o.aj.map cJ.enc)),CC.ai (.val (.int .i64 o.aQ)),CC.ai (.val (.int .i64 o.ak)),CC.ai (.val (.int .i64 o.up))]=_;rw[sy,EF,<-kM Obj.enc,lZ,acA];rfl
  .have EF:uQ k.l G dd (i+1)=uQ k.l G dd i:=by rw[EF,if_neg (by simp[h1])]
   refine⟨i+1,ay,(show k.l.length-(i+1)<k.l.length-i by omega),View.o2 5 [0,1,2,3] [] ?_⟩
   .exact .pt rfl rfl (.eq rfl (oN _)) (.pr rfl rfl rfl (.pt rfl rfl (.bg (by rw[EF])) (.pm rfl rfl rfl)))
 have iD:i=k.l.length:=by have h:¬(i:Int)<(((aa (k.l.map Obj.enc)).length:Nat):Int):=h;rw[aJ,P2]at h;omega
 subst iD;rw[Vk];have hUo:∀i,NK k.l G i=true->UO k (·∈L) i/\∃o,k.l[i]? =some o/\o.ah=1:=λi hu=>by
  unfold NK at hu;cases ho:k.l[i]? with
  |none=>rw[ho]at hu;cases hu
  |some o=>
   rw[ho]at hu;simp only[aaJ,beq_iff_eq,adx,decide_eq_false_iff_not]at hu;exact⟨⟨⟨o,ho,om⟩,λh=>hu.2 ((hG i).2 h)⟩,o,rfl,hu.1⟩
 have Lv:KI (pK (NK k.l G) dd k):=pKI hk Ze lF λi hu=>(hUo i hu).2
 refine ax (λi=>i<=cs.length) [1,7,9,10,14,95,96] (λi=>[(97,am .i64 (i:Nat)),(17,.rv (.one (.row 4 9 0 none)))]) (λi=>[kB k,.row 1 (aa (pl.map Fe.iE)),.row 9 (aa ((pL (NK k.l G) dd k.l).map Obj.enc)),.var [.row 2 9 0 none,.ai (de k.ops),.ai (dM k.ps)],.row 9 (aa ((N2 pl (cs.take i)).map Cl.enc))]) (λi=>cs.length-i) 0 (aad _) ?_ (λi hi=>?_)
 .refine View.trans (View.bv 17 9 4 rfl rfl rfl) (View.o1 5 [0,1,2,3,4] [] ?_)
  .exact .au
 have hi:i<=cs.length:=hi;refine an (λh=>?_) (λh=>?_)
 .have ay:i<cs.length:=by have h:(i:Int)<((cs.map Cl.enc).length:Int):=h;rw[P2]at h;omega
  have SX:=Rq ay;have hcn:=R2 (pl:=pl) (xm ay);have amv:(N2 pl (cs.take i)).length<=1048576:=by have h1:(N2 pl (cs.take i)).length<=(cs.take i).length:=adt _ _;rw[abg]at h1;omega
  generalize cs[i]=c at SX hcn;refine af SX ?_;refine ahh pl om c.aQ rfl ?_;by_cases hm:c.aQ∈pl
  .rw[decide_eq_true hm];rw[if_pos hm]at hcn;refine⟨by have e:=aJ ((N2 pl (cs.take i)).map Cl.enc);rw[P2]at e;simp only[bt,aaY,acg];omega,?_⟩
   refine⟨i+1,ay,(show cs.length-(i+1)<cs.length-i by omega),View.o2 8 [0,1,2,3,7] [] ?_⟩
   .rw[hcn,abT];exact .pt rfl rfl (.eq rfl (oN _)) (.pr rfl rfl rfl (.pr rfl rfl rfl (.pe rfl rfl rfl (.pt rfl rfl (.bg (bU (List.map Cl.enc _) (List.map Cl.enc [_])).symm) (.nil _)))))
  .rw[decide_eq_false hm];rw[if_neg hm,adn]at hcn;refine⟨i+1,ay,(show cs.length-(i+1)<cs.length-i by omega),View.o2 6 [0,1,2,3,4] [] ?_⟩
   .exact .pt rfl rfl (.eq rfl (oN _)) (.pr rfl rfl rfl (.pr rfl rfl rfl (.pe rfl rfl rfl (.pt rfl rfl (.bg (by rw[hcn])) (.nil _)))))
 have hic:i=cs.length:=by have h:¬(i:Int)<((cs.map Cl.enc).length:Int):=h;rw[P2]at h;omega
 subst hic;rw[abo];have iF:∀c,c∈N2 pl cs->∀p:Nat,c.aQ=p->inL pl p:=λc hc p hp=>by have:=(adD.1 hc).2;unfold inL;rw[<-hp];exact of_decide_eq_true this
 have Gf:No (N2 pl cs):=⟨abK (adt _ _) fF.l,λc hc=>fF.d c (adD.1 hc).1⟩
 have adj:=Wv (prog:=prog) Ze om (N2 pl cs) k (inL pl) (·∈L) hF hUo iF
 generalize N2 pl cs=ms at Gf adj;refine bW [7] [(9,.rv (.one (.ptr 0 0))),(14,.rv (.one (.ptr 1 0))),(17,Nn ms)] [kB k,kB (pK (NK k.l G) dd k)] (View.o 5 [0,3] [2,4] ?_ ?_) ?_
 .repeat(first|exact .nil|refine .aL ?_|refine .eq rfl ?_|refine .put (.rv (.one (.dO (cV.db (Z:=λk=>bh [2,4] k=true) (ds:=ms.map Cl.enc) rfl rfl 0 none)))) ?_)
 .exact .pt rfl rfl (.eq rfl (oN _)) (.pt rfl rfl (dC.var (.cons (.dO (cV.db (Z:=λk=>bh [2,4] k=true) (ds:=(pL (NK k.l G) dd k.l).map Obj.enc) rfl rfl 0 none)) (.cons (.aO (.ai _)) (.cons (.aO (.ai _)) .nil)))) (.nil _))
 refine WA prog k hk ms Gf ?_;refine WA prog (pK (NK k.l G) dd k) Lv ms Gf ?_;unfold pyV;rw[adj];have EF:=FX (prog:=prog) ms k hk;have hal:(aS prog k ms).length<=1048576:=by rw[IX];exact Gf.l
 generalize aS prog k ms=A at EF hal;refine ax (λi=>i<=A.length) [21,23,125] (λi=>[(126,am .i64 (i:Nat))]) (λi=>[]) (λi=>A.length-i) 0 (aad _) ?_ (λi hi=>?_)
 .refine View.o1 4 [] [] (.nil _)
 have hi:i<=A.length:=hi;refine an (λh=>?_) (λh=>?_)
 rotate_left
 .exact rfl
 have ay:i<A.length:=by have h:(i:Int)<((A.map An.enc).length:Int):=h;rw[P2]at h;omega
 have W0:cH (A.map An.enc) (i:Nat)=some (A[i].enc):=by rw[aY,Rn,xm ay];rfl
 have CO:=EF _ (aaP ay);generalize A[i]=a at W0 CO;refine af W0 ?_;refine af W0 ?_;refine RZ a CO ?_;refine⟨trivial,?_⟩;refine⟨i+1,ay,(show A.length-(i+1)<A.length-i by omega),View.o2 0 [] [] (.nil _)⟩
theorem AK(b:List Int)(hb:uN b)(cs:List Cl)(fF:No cs)(dt:List Int)(hdt:dt.length<=1048576):aq prog 4 [.rv (.one (.ai (.sl 1 (dH b)))),Nn cs,.rv (.one (.ai (.sl 1 (dH dt))))] [] (λr _=>r=ar true):=
 qC func4 l4N rfl (aat rfl) (Vl b hb cs fF dt hdt) rfl rfl rfl
end Kn
end Go.Proofs.YtllkfpggoigbaaaGreatDoor
