/- Part 42 of 43: what the law stands on. -/
import Derived.Test.YtojhmadmlnfpcaaGreatDoorK16
import Derived.Test.YtojhmadmlnfpcaaGreatDoorK40
set_option linter.unusedVariables false
set_option linter.unusedSimpArgs false
set_option linter.unnecessarySimpa false
set_option maxRecDepth 100000
set_option maxHeartbeats 64000000
namespace Go.Proofs.YtojhmadmlnfpcaaGreatDoor
open Go.AM Go.ChangeShapes Go.WideShapes Go.ChangeAt Go.RowKit
def c6:LF:= ⟨88,[.tmp 4],(.seq (.ai [qu 4 (.aD (qb false))]) (.seq (.seq (.ai [qu 10 (qc 8 []),qu 11 (.un .not 10)]) (.cond 11 (.seq (.ai [qu 4 (.aD (qb false))]) .ret) .skip)) (.seq (.seq (.ai [qm 12 0,qu 13 (qc 9 [12]),qu 14 (.On false 0 1 13),qu 15 (.aF .neq 14 (qi 0))]) (.cond 15 (.seq (.ai [qu 4 (.aD (qb true))]) .ret) .skip)) (.seq (.ai [qm 17 0,qm 18 1,qu 19 (qc 10 [17,18]),qm 16 19,qu 20 (.ext 16 0),qu 21 (.ext 16 1),qm 5 20,qm 6 21]) (.seq (.seq (.ai [qm 22 1,qu 23 (.len 1 22),qu 24 (.aD (qi 0))]) (.block 0 (.loop (.seq (.ai [qu 25 (.aF .lss 24 23)]) (.seq (.cond 25 .skip (.exit 0)) (.seq (.block 1 (.seq (.ai [qm 26 24,qu 27 (.bO 9 22 24),qL 28 9 27,qu 8 (.alloc [(qd 0),(qd 0),(qd 0),(qd 0),(qd 0),(qd 0),(qd 0),(.aa (.val (.string ⟨#[]⟩))),.aI]),qm 7 26,qw (.store 9 8 28)]) (.seq (.ai [qm 29 5,qm 30 7,qu 31 (.bO 3 29 30),qL 32 3 31,qu 9 (.alloc [.aI,.aI,.aI]),qw (.store 3 9 32)]) (.seq (.seq (.ai [qf 33 0 8,ql 34 33,qu 35 (.aF .lss 34 (qi 0)),qm 36 35,qg 37 (.bg 0 8) 36 false,qg 38 (.load false 1 37) 36 false,qg 39 (.bg 2 9) 36 false,qg 40 (.load false 1 39) 36 false,qg 41 (.len 1 40) 36 false,qg 42 (.aF .geq 38 41) 36 false,qu 43 (.pick 36 (qb true) 42),qm 44 43,qg 45 (.bg 2 9) 44 false,qg 46 (.load false 1 45) 44 false,qg 47 (.bg 0 8) 44 false,qg 48 (.load false 1 47) 44 false,qg 49 (.bO 4 46 48) 44 false,qg 50 (.bg 0 49) 44 false,qg 51 (.load false 1 50) 44 false,qg 52 (.un .not 51) 44 false,qu 53 (.pick 44 (qb true) 52),qm 54 53,qg 55 (.bg 2 9) 54 false,qg 56 (.load false 1 55) 54 false,qg 57 (.bg 0 8) 54 false,qg 58 (.load false 1 57) 54 false,qg 59 (.bO 4 56 58) 54 false,qg 60 (.bg 1 59) 54 false,qg 61 (.load false 1 60) 54 false,qg 62 (.un .not 61) 54 false,qu 63 (.pick 54 (qb true) 62),qm 64 63,qg 65 (.bg 1 8) 64 false,qg 66 (.load false 1 65) 64 false,qg 67 (.aF .lss 66 (qi 1)) 64 false,qu 68 (.pick 64 (qb true) 67),qm 69 68,qg 70 (.bg 1 8) 69 false,qg 71 (.load false 1 70) 69 false,qg 72 (.aF .gtr 71 (qi 22)) 69 false,qu 73 (.pick 69 (qb true) 72)]) (.cond 73 (.exit 1) .skip)) (.seq (.ai [qm 74 0,qL 75 9 8,qu 76 (qc 14 [75]),qu 77 (qc 13 [74,76]),qu 78 (.un .not 77),qm 79 78,qg 80 (.aD 6) 79 true,qg 81 (.aD 7) 79 true,qg 82 (.bO 4 80 81) 79 true,qg 83 (.bg 0 82) 79 true,qg 84 (.load false 1 83) 79 true,qg 85 (.aF .neq 84 (qi 9)) 79 true,qu 86 (.pick 79 85 (qb false))]) (.cond 86 (.seq (.ai [qu 4 (.aD (qb false))]) .ret) .skip)))))) (.ai [qu 87 (.aF .add 24 (qi 1)),qm 24 87]))))))) (.seq (.ai [qu 4 (.aD (qb true))]) .ret))))))⟩
namespace Kn
theorem Gs{l l':List bU}(hw:(bX l).1=0)(hp:l'.Perm l)(hr:gW l')(r:oC):(rI (dy l') r).1=if gz l r=true then 1 else 0:=by obtain⟨TF,hg,hd⟩:=oF hw;rw[NI r (fun p h=>hg p (hp.mem_iff.1 h)) (by rw[hp.length_eq];exact TF) hr,J1 hp,J2 hd]
theorem NV{prog:List dB}{k:Kr}{c:Cl}(hl:ek k.ps c.aL=true)(hf:fE k.ps c.aL.toNat=true)(h1:1<=c.ah)(h2:c.ah<=22)(hr:(rI prog (jm c)).1≠1):jj prog k c=(k,An.no 9):=by
 unfold jj;rw[if_neg (by rw[hl];simp),if_neg om,if_pos ⟨hf,.inl hr⟩]
theorem l6:bs Tryz.prog Tryz.f6=some c6.er:=by kernel_rfl
theorem Gt(l:List bU)(cs:List Cl)(dG:rL cs):body Tryz.prog c6 [cS l,p7 cs] [] (fun r m=>r=ay true):=by
 refine nj ?_;refine oX l ?_;refine br (fun hw=>?_) (fun hw=>?_)
 .exact rfl
 have hw:(bX l).1=0:=hw;refine s9 l hw cs dG fun l' hp hr=>?_
 have hg:=Gs hw hp hr;generalize dy l'=prog at hg;refine aO (fun i=>i<=cs.length) [0,5,6,22,23] (fun i=>[(24,an .i64 (i:Nat))]) (fun i=>[]) (fun i=>cs.length-i) 0 (aao _) ?_ (fun i hi=>?_)
 .refine View.o 0 [] [] ?_ (.nil _);repeat(first|exact .nil|refine .ap ?_|refine .eq rfl ?_)
 have hi:i<=cs.length:=hi;have gZ:=dG.l;refine aB (fun h=>?_) (fun h=>?_)
 rotate_left
 .exact rfl
 have aC:i<cs.length:=by have h:(i:Int)<((cs.map Cl.enc).length:Int):=h;rw[aad]at h;omega
 refine ag (xd aC) ?_;have vY:=KI.kS (prog:=prog) (cs.take i) ni;have k1:=xe prog cs (acu aC);have ha:=AZ prog cs aC;have he:= @NV prog (kS prog bt (cs.take i)) cs[i];generalize jj prog (kS prog bt (cs.take i)) cs[i]=D at ha he;generalize kS prog bt (cs.take i)=k at k1 vY he;generalize cs[i]=c at he;refine ag k1 ?_;refine aB (fun h1=>?_) (fun h1=>?_)
 .refine⟨i+1,aC,(show cs.length-(i+1)<cs.length-i by omega),View.o 2 [] [] ?_ (.nil _)⟩
  repeat(first|exact .nil|refine .ap ?_|refine .put (.aQ (aq om).symm) ?_|refine .eq rfl ?_)
 have h1:¬c.aL<0:=h1;obtain⟨p,hc⟩:∃n:Nat,c.aL=n:=⟨c.aL.toNat,om⟩;refine aB (fun h2=>?_) (fun h2=>?_)
 .refine⟨i+1,aC,(show cs.length-(i+1)<cs.length-i by omega),View.o 2 [] [] ?_ (.nil _)⟩
  repeat(first|exact .nil|refine .ap ?_|refine .put (.aQ (aq om).symm) ?_|refine .eq rfl ?_)
 have gE:p<k.ps.length:=by have h2:¬c.aL>=((k.ps.map bi.enc).length:Int):=h2;rw[aad]at h2;omega
 have hq:cy (k.ps.map bi.enc) c.aL=some k.ps[p].enc:=by rw[hc,bl,aaf,aab gE];rfl
 refine ag hq ?_;have dh:ek k.ps c.aL=k.ps[p].aV:=by rw[hc];simp[ek,gE]
 have Ir:fE k.ps c.aL.toNat=k.ps[p].fenced:=by rw[hc,aaw];simp[fE,aab gE]
 rw[dh,Ir]at he;generalize k.ps[p]=q at hq he;obtain⟨lv,fn,cd,sl⟩:=q;cases lv with
 |false=>
  refine⟨i+1,aC,(show cs.length-(i+1)<cs.length-i by omega),View.o 2 [] [] ?_ (.nil _)⟩
  repeat(first|exact .nil|refine .ap ?_|refine .put (.aQ (aq om).symm) ?_|refine .eq rfl ?_)
 |true=>
  refine ag hq ?_;cases fn with
  |false=>
   refine⟨i+1,aC,(show cs.length-(i+1)<cs.length-i by omega),View.o 2 [] [] ?_ (.nil _)⟩
   repeat(first|exact .nil|refine .ap ?_|refine .put (.aQ (aq om).symm) ?_|refine .eq rfl ?_)
  |true=>
   refine aB (fun h3=>?_) (fun h3=>?_)
   .refine⟨i+1,aC,(show cs.length-(i+1)<cs.length-i by omega),View.o 2 [] [] ?_ (.nil _)⟩
    repeat(first|exact .nil|refine .ap ?_|refine .put (.aQ (aq om).symm) ?_|refine .eq rfl ?_)
   have h3:¬c.ah<1:=h3;refine aB (fun h4=>?_) (fun h4=>?_)
   .refine⟨i+1,aC,(show cs.length-(i+1)<cs.length-i by omega),View.o 2 [] [] ?_ (.nil _)⟩
    repeat(first|exact .nil|refine .ap ?_|refine .put (.aQ (aq om).symm) ?_|refine .eq rfl ?_)
   have h4:¬c.ah>22:=h4;refine ta c ?_;obtain⟨TF,Is,-⟩:=oF hw;refine Gk l (jm c) TF (Dh hw).2 (fun p hp=>by have:=(Is p hp).2.2.1;omega) ?_
   have he:=he rfl rfl om om;rw[hg]at he;cases Qt:gz l (jm c)with
   |true=>
    refine⟨i+1,aC,(show cs.length-(i+1)<cs.length-i by omega),View.o 2 [] [] ?_ (.nil _)⟩
    repeat(first|exact .nil|refine .ap ?_|refine .put (.aQ (aq om).symm) ?_|refine .eq rfl ?_)
   |false=>
    have he:=he (by rw[Qt];simp)
    subst he;refine ag ha ?_;refine⟨i+1,aC,(show cs.length-(i+1)<cs.length-i by omega),View.o 2 [] [] ?_ (.nil _)⟩
    repeat(first|exact .nil|refine .ap ?_|refine .put (.aQ (aq om).symm) ?_|refine .eq rfl ?_)
theorem NW(l:List bU)(cs:List Cl)(dG:rL cs):ar Tryz.prog 6 [cS l,p7 cs] [] (fun r _=>r=ay true):=
 js Tryz.func6 l6 rfl (aak rfl) (Gt l cs dG) rfl rfl rfl
end Kn
end Go.Proofs.YtojhmadmlnfpcaaGreatDoor
