/- Part 15 of 23. -/
import Derived.Test.YtllkfpggoigbaaaGreatDoorW11
import Derived.Test.YtllkfpggoigbaaaGreatDoorW12
import Derived.Test.YtllkfpggoigbaaaGreatDoorW14
import Derived.RangeFuncNested
import Derived.RangeFuncCalls
import Derived.Shelf.Abstract
import Derived.WalkKit
import Derived.OwnWalkIn
import Derived.TacticsInMore
import Derived.LoopNIn
import Derived.LoopIn
set_option linter.unusedVariables false
set_option linter.unusedSimpArgs false
set_option maxRecDepth 100000
set_option maxHeartbeats 0
namespace Go.Proofs.YtllkfpggoigbaaaGreatDoor
open Proofs.Tryz
open Go.AM Go.ChangeShapes Go.WideShapes Go.ChangeAt Go.RowKit
namespace bY
attribute [local go_sem] Oper.semAt_some
def CZ(w:World)(b o:Nat):Nat:=match w.cell? ⟨b,o,none⟩with|some (.string s)=>s.size|_=>0
theorem y9{w:World}{b o:Nat}{s:ByteArray}(h:w.cell? ⟨b,o,none⟩=some (.string s)):CZ w b o=s.size:=by simp[CZ,h]
@[simp] theorem rA(r:List UInt8):(cZ r).data.toList=r:=rfl
@[simp] theorem oH(r:List UInt8):(cZ r).size=r.length:=by simp[cZ,ByteArray.size]
theorem uc(r:List UInt8)(a b:Nat)(hb:b<=r.length):(cZ r).extract a b=cZ ((r.take b).drop a):=by apply ByteArray.ext;simp[cZ,ByteArray.data_extract,List.drop_take]
def afZ(F:Fence)(n:Nat)(P:Program)(l:Nat)(args:Array Value)(W:World)(R:Ending->World->Prop):Prop:=
 ∃fn tmps assign body,(Instr.yield l args).run P W= .ok (.round l fn tmps assign body) W/\RoundIn F n P l fn tmps assign body W R
theorem HM(F:Fence)(n:Nat)(h49:F.fn 157)(h51:F.fn 159)(hro:F.round=none)(hn:3<=n)(s:ByteArray)(c:UInt8)(l b1 o1 b2 o2 b3 o3:Nat)(W:World)(J:Nat->World->Prop)(Jx:World->Prop)(n12:b1≠b2)(n13:b1≠b3)(n23:b2≠b3)(hix:∀(s:ByteArray)(w:World),CallsIn F (n-1) prog 159 #[.string s,.string ⟨#[c]⟩] w λe w'=>e= .returned (.int .i64 (Lib.indexByte s.data.toList c))/\w'=w)(c1:W.cell? ⟨b1,o1,none⟩=some (.string ⟨#[c]⟩))(c2:W.cell? ⟨b2,o2,none⟩=some (.string s))(f2:W.frozen? ⟨b2,o2,none⟩=false)(c3:W.cell? ⟨b3,o3,none⟩=some (.int .i64 0))(hJ:∀k W v,J k W->J k (W.setCell ⟨b2,o2,none⟩ v))(hY:∀k y W,(jl c s)[k]? =some y->J k W->afZ F (n-1) prog l #[.string y] W λe W'=>
   (e= .returned (.bool true)/\J (k+1) W'/\W'.heap[b1]? =W.heap[b1]? /\W'.heap[b2]? =W.heap[b2]? /\W'.heap[b3]? =W.heap[b3]?)\/(e= .returned (.bool false)/\Jx W'))(h0:J 0 W)(eu:(s.size:Int)<4611686018427387904):
  CallsIn F n prog 157 #[.func (.yield l) #[] #[],.pointer (some ⟨b1,o1,none⟩),.pointer (some ⟨b2,o2,none⟩),.pointer (some ⟨b3,o3,none⟩)] W λe W'=>
   (∃v,e= .returned v)/\(J (jl c s).length W'\/Jx W'):=by
 have h1:1<=n:=om;refine callsIn_of_wp func157 rfl h49 ?_ hro;simp only[ntmps157,List.size_toArray,aaY,acg,Nat.reduceAdd,Nat.reduceSub,Array.replicate_succ,Array.replicate_zero,List.push_toArray,List.append_toArray,aeP,afH]
 gi_wp2
 gi_loopw [] (λwr=>∃(k:Nat)(r:List UInt8),wr.cell? ⟨b2,o2,none⟩=some (.string (cZ r))/\wr.frozen? ⟨b2,o2,none⟩=false/\wr.cell? ⟨b1,o1,none⟩=some (.string ⟨#[c]⟩)/\
   wr.cell? ⟨b3,o3,none⟩=some (.int .i64 0)/\(jl c s).drop k=(iU c r).map cZ/\J k wr/\r.length<=s.size) (λwr=>CZ wr b2 o2)
 case atStart=>
  exact⟨0,s.data.toList,by rw[c2];rfl,f2,c1,c3,rfl,h0,by show s.data.toList.length<=s.data.size;rw[adP];exact aah _⟩
 case round=>
  obtain⟨k,r,d2,g2,d1,d3,hcut,hj,hlen⟩:=hrel;rcases Int.lt_or_le (Lib.indexByte r c) 0 with hneg|hpos
  .have hm1:Lib.indexByte r c= -1:=by have:=Lib.indexByte_ge r c;omega
   have hix:=(hix (cZ r) wr).mono (R':=λe w'=>e= .returned (.int .i64 (-1))/\w'=wr) λe w'⟨h1,h2⟩=>⟨by rw[h1,rA,hm1],h2⟩
   have hk:(jl c s)[k]? =some (cZ r):=by
    have:=congrArg (λl=>l[0]?) hcut
    simp only[adi,vD hm1]at this;simpa using this
   have hlen2:(jl c s).length=k+1:=by have h2:=congrArg List.length hcut;have h3:=(Mp.1 hk).1;rw[vD hm1,acP]at h2;simp only[ac6,aeW,aaY,acg]at h2;omega
   obtain⟨fn,tmps,assign,body,hy,hR⟩:=hY k _ wr hk hj;have hfin:∀W,J (k+1) W->J (jl c s).length W:=λW h=>hlen2▸h
   clear hY hJ hcut hneg hm1 hk c1 c2 f2 c3 h0 hlen2
   gi_wp2_with (gi_at_call 159;refine hix.mono ?_;rintro e w' ⟨rfl,rfl⟩)
   refine hR.mono ?_;rintro e W' (⟨rfl,hJ',_⟩|⟨rfl,hx⟩)
   .gi_wp2
    go_end0
    exact⟨⟨_,rfl⟩,.inl (hfin _ hJ')⟩
   .gi_wp2
    go_end0
    exact⟨⟨_,rfl⟩,.inr hx⟩
  .obtain⟨i,hi⟩:=Int.eq_ofNat_of_zero_le hpos;obtain⟨hlt,hcut2⟩:=BC hi;have hk:(jl c s)[k]? =some (cZ (r.take i)):=by
    have:=congrArg (λl=>l[0]?) hcut
    simp only[adi,hcut2]at this;simpa using this
   have hnext:(jl c s).drop (k+1)=(iU c (r.drop (i+1))).map cZ:=by have:=congrArg List.tail hcut;rw[hcut2,List.tail_drop]at this;simpa using this
   obtain⟨fn,tmps,assign,body,hy,hR⟩:=hY k _ wr hk hj;obtain⟨z,hz⟩:∃z:Int,z=(i:Int):=⟨_,rfl⟩;have hix:=(hix (cZ r) wr).mono (R':=λe w'=>e= .returned (.int .i64 z)/\w'=wr) λe w'⟨h1,h2⟩=>⟨by rw[h1,rA,hi,hz],h2⟩
   have Hnext:Hid ((jl c s).drop (k+1)=(iU c (r.drop (i+1))).map cZ):=hnext;have HJ:Hid (∀k W v,J k W->J k (W.setCell ⟨b2,o2,none⟩ v)):=hJ;have Hz:Hid (z=(i:Int)):=hz;have z0:0<=z:=om;have z0':decide (z<0)=false:=decide_eq_false om;have z1:z<r.length:=om;have hw1:wrap64 z=z:=by unfold wrap64;omega
   have hw2:wrap64 (z+1)=z+1:=by unfold wrap64;omega
   have hs1:(0<=z/\z<=(r.length:Int))=True:=by simp;omega
   have hs2:(0<=z+1/\z+1<=(r.length:Int))=True:=by simp;omega
   have hs3:z<=(r.length:Int):=om;have hs4:0<=z+1:=om;have hs5:z+1<=(r.length:Int):=om;have he1:cZ (r.take i)=(cZ r).extract 0 z.toNat:=by rw[uc r _ _ om,hz];simp
   have he2:(cZ r).extract (z+1).toNat r.length=cZ (r.drop (i+1)):=by rw[uc r _ _ (aah _),abo,hz];rfl
   have Hend:Hid (i<r.length/\r.length<=s.size/\(cZ r).extract (z+1).toNat r.length=cZ (r.drop (i+1))):=⟨hlt,hlen,he2⟩;rw[he1]at hy;clear hJ hY hcut hcut2 hi hk c1 c2 f2 c3 h0 hpos hnext hz eu he1 he2 hlt hlen
   gi_wp2_with (first
    |(gi_at_call 159;refine hix.mono ?_;rintro e w' ⟨rfl,rfl⟩)
    |(refine wpIn_cond_false (by show Value.bool (decide (z<0))=Value.bool false;rw[z0']) ?_))
   refine hR.mono ?_;rintro e W' (⟨rfl,hJ',e1,e2,e3⟩|⟨rfl,hx⟩)
   .have q1:W'.cell? ⟨b1,o1,none⟩=some (.string ⟨#[c]⟩):=(World.cell?_of_block (a:=⟨b1,o1,none⟩) e1).trans d1;have q2:W'.cell? ⟨b2,o2,none⟩=some (.string (cZ r)):=(World.cell?_of_block (a:=⟨b2,o2,none⟩) e2).trans d2;have q3:W'.cell? ⟨b3,o3,none⟩=some (.int .i64 0):=(World.cell?_of_block (a:=⟨b3,o3,none⟩) e3).trans d3;have q4:W'.frozen? ⟨b2,o2,none⟩=false:=by rw[<-g2];simp only[World.frozen?,e2]
    gi_wp2
    obtain⟨hlt,hlen,he2⟩:=Hend.out;have hq:(W'.cell? ⟨b2,o2,none⟩).isSome=true:=by rw[q2];rfl
    have hn2:=World.cell?_setCell_same' W' ⟨b2,o2,none⟩ (.string ((cZ r).extract (z+1).toNat r.length)) hq;rw[he2]at hn2|-;refine⟨⟨k+1,r.drop (i+1),hn2,by rw[World.frozen?_setCell];exact q4,?_,?_,Hnext.out,HJ.out _ _ _ hJ',by simp;omega⟩,?_⟩
    .exact(World.cell?_setCell_other _ _ _ _ λe=>n12 (congrArg Addr.block e).symm).trans q1
    .exact(World.cell?_setCell_other _ _ _ _ λe=>n23 (congrArg Addr.block e)).trans q3
    .rw[y9 hn2,y9 d2,oH,oH,acP];omega
   .gi_wp2
    refine bodyPost_ret (results_none rfl _ _ _) rfl ?_;exact⟨⟨_,rfl⟩,.inr hx⟩
theorem sM(W:World)(a:Addr)(v:Value){b:Nat}(h:b≠a.block):(W.setCell a v).heap[b]? =W.heap[b]? :=by simp only[World.setCell,ads];rw[if_neg (λe=>h e.symm)]
theorem C0{n:Nat}{P:Program}{l:Nat}{f:FuncId}{tmps:Array Value}{assign body:Code}{w:World}{R:Ending->World->Prop}(h:RoundIn Fence.wide 0 P l f tmps assign body w R):
  RoundIn Fence.wide n P l f tmps assign body w R:=⟨h.1,λc cs _=>h.2 c cs (room_wide _)⟩
theorem Mq(s:ByteArray)(c:UInt8)(eu:(s.size:Int)<4611686018427387904):ZW prog 157 [.string ⟨#[c]⟩,.string s,.int .i64 0] (jl c s):=by
 refine⟨⟨f157,func157,rfl,by decide⟩,?_⟩
 intro l az W J Jx hlen hnd hcell hJ hJx hY h0
 match az,hlen with
 | [(b1,o1),(b2,o2),(b3,o3)],_=>
 obtain⟨c1,f1⟩:=hcell 0 _ _ rfl rfl;obtain⟨c2,f2⟩:=hcell 1 _ _ rfl rfl;obtain⟨c3,f3⟩:=hcell 2 _ _ rfl rfl;simp only[ac6,aeW,aem,abH,adA,or_false,not_or,List.nodup_nil]at hnd;obtain⟨⟨n12,n13⟩,n23,_⟩:=hnd;show CallsIn Fence.wide 0 prog 157 #[.func (.yield l) #[] #[],.pointer (some ⟨b1,o1,none⟩),.pointer (some ⟨b2,o2,none⟩),.pointer (some ⟨b3,o3,none⟩)] W _;refine callsIn_wide.2 ((callsIn_wide (n:=5)).1 ?_);refine HM Fence.wide 5 trivial trivial rfl om s c l b1 o1 b2 o2 b3 o3 W J Jx n12 n13 n23 (λs w=>callsIn_wide.2 (Mn s c w)) c1 c2 f2 c3 ?_ ?_ h0 eu
 .intro k W v hj;exact hJ k W _ hj aG (λb _ hb=>sM _ _ _ (hb (b2,o2) aG)) rfl rfl rfl
 .intro k y W hk hj;obtain⟨fn,tmps,assign,body,hy,hR⟩:=hY k y W hk hj;refine⟨fn,tmps,assign,body,hy,(C0 hR).mono λe W' h=>?_⟩
  rcases h with⟨he,h1,h2,h3⟩|⟨he,h1⟩
  .exact .inl ⟨he,h1,h3 (b1,o1) aG,h3 (b2,o2) aG,h3 (b3,o3) aG⟩
  .exact .inr ⟨he,h1⟩
end bY
def c116:LF:=Cq prog f116 [] []
namespace bY
abbrev eh:=List UInt8
def vT(t:eh):CV:=ei (cZ t)
theorem C1(s:ByteArray):∃t:eh,s=cZ t:=⟨s.data.toList,rfl⟩
theorem wO(t:eh):(cZ t).toList=t:=ByteArray.toList_mk t
theorem mP{a b:eh}{A B:Prop}(ha:a=b->A)(hb:a≠b->B): @Bool.rec (λ_=>Prop) B A ((cZ a).toList==(cZ b).toList):=by
 rw[wO,wO];cases h:(a==b)
 .exact hb (by simpa using h)
 .exact ha (by simpa using h)
def P3(n:Nat):Bool:=(decide (97<=n)&&decide (n<=122))||(decide (48<=n)&&decide (n<=57))||decide (n=46)||decide (n=95)
def gQ(t:eh):Bool:=decide (1<=t.length)&&decide (t.length<=12)&&decide (t≠[46])&&decide (t≠[46,46])&&t.all λc=>P3 c.toNat
theorem HN{t:eh}{k:Nat}(hk:k<t.length)(h:P3 t[k].toNat=false):gQ t=false:=by
 have:(t.all λc=>P3 c.toNat)=false:=by
  rw[List.all_eq_false];exact⟨t[k],aaP hk,by simp[h]⟩
 simp[gQ,this]
theorem HO{t:eh}(h1:1<=t.length)(h2:t.length<=12)(h3:t≠[46])(h4:t≠[46,46])(h:∀k(hk:k<t.length),P3 t[k].toNat=true):gQ t=true:=by
 have:(t.all λc=>P3 c.toNat)=true:=by rw[adk];intro c hc;obtain⟨k,hk,rfl⟩:=List.mem_iff_getElem.1 hc;exact h k hk
 simp[gQ,this,h1,h2,h3,h4]
theorem abx{n:Nat}(h1:¬(97<=n/\n<=122))(h2:¬(48<=n/\n<=57))(h3:n≠46)(h4:n≠95):P3 n=false:=by
 have a:¬(97<=n)\/¬(n<=122):=om;have b:¬(48<=n)\/¬(n<=57):=om;unfold P3;rcases a with a|a<;>rcases b with b|b<;>simp[a,b,h3,h4]
theorem aby{n:Nat}(h:(97<=n/\n<=122)\/(48<=n/\n<=57)\/n=46\/n=95):P3 n=true:=by
 unfold P3;rcases h with⟨a,b⟩|⟨a,b⟩|h|h<;>simp_all
theorem l116:bA prog f116=some c116:=by kernel_rfl
theorem af1{t:eh}{k:Nat}(hk:k<t.length):cH (cZ t).data.toList (k:Nat)=some t[k]:=by rw[aY,rA,xm hk]
theorem iz(t:eh):(((cZ t).size:Nat):Int)=t.length:=by rw[oH]
theorem oC(t:eh):body prog c116 [vT t] [] (λr m=>r=ar (gQ t)):=by
 refine an (λh=>?_) (λh=>?_)
 .rw[iz]at h;have:gQ t=false:=by simp[gQ];omega
  rw[this];rfl
 rw[iz]at h;refine an (λh2=>?_) (λh2=>?_)
 .rw[iz]at h2;have:gQ t=false:=by simp[gQ];omega
  rw[this];rfl
 rw[iz]at h2;refine mP (b:=[46]) (λh3=>?_) (λh3=>?_)
 .subst h3;rfl
 refine mP (b:=[46,46]) (λh4=>?_) (λh4=>?_)
 .subst h4;rfl
 refine ax (λk=>k<=t.length/\∀j(hj:j<t.length),j<k->P3 t[j].toNat=true) [0] (λk=>[(22,am .i64 (t.length:Nat)),(23,am .i64 (k:Nat))]) (λ_=>[]) (λk=>t.length-k) 0 ⟨aad _,λj _ h=>absurd h (abq _)⟩ ?_ (λk hk=>?_)
 .refine View.o 0 [] [] ?_ (.nil _);repeat(first|exact .nil|refine .aL ?_|refine .eq rfl ?_|refine .put (.aO (by rw[iz];rfl)) ?_)
 obtain⟨hk,gM⟩:k<=t.length/\∀j(hj:j<t.length),j<k->P3 t[j].toNat=true:=hk;refine an (λh5=>?_) (λh5=>?_)
 .have ay:k<t.length:=by have h5:(k:Int)<(t.length:Int):=h5;omega
  refine af (af1 ay) ?_;repeat' first|refine an (λ_=>?_) (λ_=>?_)|refine bO (λ_=>?_) (λ_=>?_)
  all_goals first
   |(show ar false=ar (gQ t)
     rw[HN ay (abx om om om om)])
   |(refine⟨k+1,⟨ay,λj hj hjk=>?_⟩,(show t.length-(k+1)<t.length-k by omega),View.o 0 [] [] ?_ (.nil _)⟩
     .rcases aaD j k with h|h
      .exact gM j hj h
      .have:j=k:=om;subst this;exact aby om
     .repeat(first|exact .nil|refine .aL ?_|refine .put (.aO (bC om).symm) ?_|refine .eq rfl ?_))
 .show ar true=ar (gQ t);have h5:¬(k:Int)<(t.length:Int):=h5;rw[HO om om h3 h4 λj hj=>gM j hj om]
theorem tT(t:eh){m:Mem}{K:CV->Mem->Prop}(h:K (ar (gQ t)) m):aq prog 116 [vT t] m K:=
 bH func116 l116 rfl (aat rfl) (oC t) rfl rfl h
end bY
def c75:LF:= ⟨37,[.cell false 1 2,.cell false 1 3,.cell false 1 4],(.seq (.DD [qu 2 (.alloc [.bv]),qu 3 (.alloc [(.ai (.val (.bool false)))]),qu 4 (.alloc [qd 0])]) (.seq (.seq (.DD [qm 7 0,qu 8 (.N4 .eql 7 (.c (.rv (.one (.ai (.val (.string ⟨#[]⟩)))))))]) (.cond 8 (.seq (.DD [qw (.store 1 2 qe),qw (.store 1 3 (qb false)),qw (.store 1 4 (qi 2))]) .ret) .skip)) (.seq (.seq (.DD [qm 9 0,qu 10 (.len 0 9),qu 11 (.N4 .gtr 10 (qi 60))]) (.cond 11 (.seq (.DD [qw (.store 1 2 qe),qw (.store 1 3 (qb false)),qw (.store 1 4 (qi 4))]) .ret) .skip)) (.seq (.DD [qu 5 (.alloc [.bv])]) (.seq (.seq (.DD [qm 12 0,qu 13 (qc 115 [12,(.c (.rv (.one (.ai (.val (.string ⟨#[47]⟩))))))])]) (.block 0 (.Ah 13 14 (.DD [qm 6 14]) (.block 1 (.block 2 (.seq (.DD [qm 16 6,qu 17 (.N4 .eql 16 (.c (.rv (.one (.ai (.val (.string ⟨#[]⟩))))))),qm 18 17,qg 19 (.WB 6) 18 false,qg 20 (.N4 .eql 19 (.c (.rv (.one (.ai (.val (.string ⟨#[46]⟩))))))) 18 false,qu 21 (.pick 18 (qb true) 20),qm 15 21]) (.cond 15 .skip (.seq (.DD [qm 23 6,qu 24 (.N4 .eql 23 (.c (.rv (.one (.ai (.val (.string ⟨#[46,46]⟩))))))),qm 25 24,qg 26 (.WB 6) 25 false,qg 27 (qc 116 [26]) 25 false,qu 28 (.pick 25 (qb true) 27),qm 22 28]) (.cond 22 (.DD [ql 29 5,qm 30 6,qu 31 (.Zi 1 [(.ai (.val (.string ⟨#[]⟩)))] 1 [(0,30)]),qu 32 (.WD 1 16 29 31),qw (.store 1 5 32)]) (.seq (.DD [qw (.store 1 2 qe),qw (.store 1 3 (qb false)),qw (.store 1 4 (qi 7))]) .ret)))))))))) (.seq (.jF [ql 33 5,qm 34 0,qu 35 (.K9 34 (qi 0)),qu 36 (.N4 .eql 35 (.c (.rv (.one (.ai (.val (.int .u8 (47)))))))),qw (.store 1 2 33),qw (.store 1 3 36),qw (.store 1 4 (qi 0))] [(eL 4 0 (.cons 4 (some []) (.cons 5 (some []) (.cons 6 (some []) .nil))))]) .ret))))))⟩
def c115:LF:=Cq prog f115 [] []
def c141:LF:=Cq prog f141 [] []
namespace bY
theorem l141:bA prog f141=some c141:=by kernel_rfl
theorem l115:bA prog f115=some c115:=by kernel_rfl
def abz(s:ByteArray):Bk:= .var [.ai (.val (.string s))]
def sqM(s sep:ByteArray)(b0 b1 b2 b3:Bk):Mem:=[b0,b1,b2,b3,abz s,abz sep,.var [.ai (.val (.int .i64 0))]]
theorem af2(s sep:ByteArray){b0 b1 b2 b3:Bk}{K:CV->Mem->Prop}(h:K (.rv (.one (.fn 157 [5,4,6]))) (sqM s sep b0 b1 b2 b3)):aq prog 141 [ei s,ei sep,am .i64 0] [b0,b1,b2,b3] K:=
 aR func141 l141 h
theorem af3(s sep:ByteArray){b0 b1 b2 b3:Bk}{K:CV->Mem->Prop}(h:K (.rv (.one (.fn 157 [5,4,6]))) (sqM s sep b0 b1 b2 b3)):aq prog 115 [ei s,ei sep] [b0,b1,b2,b3] K:=by refine aR func115 l115 ?_;exact af2 s sep h
theorem zc(c:UInt8):∀t:eh,(iU c t).length<=t.length+1
 | []=>by simp[iU]
 |x::r=>by
  have ih:=zc c r;simp only[iU];split
  .simp;exact ih
  .split
   .simp
   .rename_i h;rw[h]at ih;simp at ih|-;omega
theorem bU(a b:List (List Dt)):aa (a++b)=aa a++aa b:=by simp[aa]
theorem Ty(c:UInt8)(r:eh):decide ((c::r)[0]? =some 47)=((c.toNat:Int)==47):=by
 by_cases h:c=47
 .subst h;rfl
 .have h2:(c.toNat:Int)≠47:=by
   intro e;have e2:c.toNat=(47:UInt8).toNat:=by show c.toNat=47;omega
   exact h (UInt8.toNat_inj.1 e2)
  simp[h,h2]
theorem l75:bA prog f75=some c75:=by kernel_rfl
def tD(t:eh):List Dt:=[.val (.string (cZ t))]
def txD(l:List eh):Dt:= .sl 1 (l.map tD)
def txV(l:List eh):CV:= .rv (.one (.ai (txD l)))
def ud(w:eh):Bool:= !(decide (w=[])||decide (w=[46]))
def ue(w:eh):Bool:=decide (w=[])||decide (w=[46])||decide (w=[46,46])||gQ w
def C2(t:eh):List eh:=(iU 47 t).filter ud
def df(t:eh):List eh×Bool×Int:=
 if t=[]then([],false,2)else if 60<t.length then([],false,4)else if(iU 47 t).all ue then(C2 t,decide (t[0]? =some 47),0)else([],false,7)
def XJ(p:List eh×Bool×Int):CV:= .bI [.one (.ai (txD p.1)),.one (.ai (.val (.bool p.2.1))),.one (.ai (.val (.int .i64 p.2.2)))]
def pt(id:Nat):CV:= .rv (.one (.ptr id 0))
def Tz(t:eh):List CV:=vT t:: .aL::pt 0::pt 1::pt 2::pt 3::iu 31 .aL
def XK:List eh->Mem
 | []=>[.var [.bv],.var [.ai (.val (.bool false))],.var [.ai (.val (.int .i64 0))],.var [.bv]]
 |x::r=>[.var [.bv],.var [.ai (.val (.bool false))],.var [.ai (.val (.int .i64 0))],.var [.row 4 1 0 none],.row 1 (aa ((x::r).map tD))]
theorem HP{c:UInt8}{t:eh}{k:Nat}{y:ByteArray}(h:(jl c (cZ t))[k]? =some y):∃w,(iU c t)[k]? =some w/\y=cZ w:=by
 simp only[jl,rA,Rn]at h;cases hc:(iU c t)[k]? with
 |none=>rw[hc]at h;cases h
 |some w=>rw[hc]at h;cases h;exact⟨w,rfl,rfl⟩
theorem kL{m:Mem}{c:CC}{l:List eh}{b:Bool}{e:Int}(h:eF m c (.ai (txD l))):cM m (.bI [.one c,.one (.ai (.val (.bool b))),.one (.ai (.val (.int .i64 e)))]) (XJ (l,b,e)):=by
 refine .bI rfl λi r r' h1 h2=>?_
 match i with
 |0=>cases h1;cases h2;exact .one h
 |1=>cases h1;cases h2;exact .one (.ai _)
 |2=>cases h1;cases h2;exact .one (.ai _)
 |n+3=>simp at h1
theorem HQ(t:eh):body prog c75 [vT t] [] (λr m=>cM m r (XJ (df t))):=by
 refine mP (b:=[]) (λh=>?_) (λh0=>?_)
 .subst h;exact kL (.bv 1)
 refine an (λh=>?_) (λh1=>?_)
 .rw[iz]at h;have:df t=([],false,4):=by rw[df,if_neg h0,if_pos om]
  rw[this];exact kL (.bv 1)
 rw[iz]at h1;refine af3 (cZ t) ⟨#[47]⟩ ?_;refine⟨157,[5,4,6],[.string ⟨#[47]⟩,.string (cZ t),.int .i64 0],jl 47 (cZ t),List eh,λk out=>out=((iU 47 t).take k).filter ud/\((iU 47 t).take k).all ue=true,λout=>⟨Tz t,XK out⟩,rfl,
  ⟨⟨rfl,rfl⟩,⟨rfl,rfl⟩,⟨rfl,rfl⟩,trivial⟩,⟨by decide,aG⟩,Mq (cZ t) 47 (by rw[iz];omega),⟨[],⟨aG,aG⟩,?_⟩,?_,?_⟩
 .refine View.o1 7 [0,1,2,3] [] ?_
  .repeat(first|exact .nil _|refine .put (by simp[bh]) rfl (.eq rfl aG) ?_)
 .intro k y out hk hJ;obtain⟨w,hw,rfl⟩:=HP hk;obtain⟨ho,hg⟩:=hJ;have VU:(iU 47 t).take (k+1)=(iU 47 t).take k++ [w]:=by rw[adr,hw];rfl
  have skip:w=[]\/w=[46]->out=((iU 47 t).take (k+1)).filter ud/\((iU 47 t).take (k+1)).all ue=true:=by
   intro h;rw[VU,adE,List.all_append,<-ho,hg];rcases h with rfl|rfl<;>simp[ud,ue]
  have eX:w≠[]->w≠[46]->(w=[46,46]\/gQ w=true)->out++ [w]=((iU 47 t).take (k+1)).filter ud/\((iU 47 t).take (k+1)).all ue=true:=by
   intro h1 h2 h3;rw[VU,adE,List.all_append,<-ho,hg];rcases h3 with rfl|h3
   .simp[ud,ue]
   .simp[ud,ue,h1,h2,h3]
  have bad:w≠[]->w≠[46]->w≠[46,46]->gQ w=false->df t=([],false,7):=by
   intro h1 h2 h3 h4;have:(iU 47 t).all ue=false:=by
    rw[List.all_eq_false];exact⟨w,Wm hw,by simp[ue,h1,h2,h3,h4]⟩
   rw[df,if_neg h0,if_neg om,this];rfl
  have hlen:out.length<=61:=by
   rw[ho];have h2:=adt ud ((iU 47 t).take k);have h3:=zc 47 t;have h4:((iU 47 t).take k).length<=(iU 47 t).length:=by rw[abg];omega
   omega
  clear ho hg VU hk;cases out with
  |nil=>
   have cT:View 0 ⟨Tz t,XK []⟩ ⟨Tz t,XK []⟩:=by
    refine View.o1 4 [0,1,2,3] [] ?_
    .repeat(first|exact .nil _|refine .put (by simp[bh]) rfl (.eq rfl aG) ?_)
   have gU:∀m,m=([.var [.bv],.var [.ai (.val (.bool false))],.var [.ai (.val (.int .i64 0))],.var [.row 5 1 0 none],.aE,.row 1 ([]++ [[.ai (.val (.string (cZ w)))]])]:Mem)->View 0 ⟨Tz t,m⟩ ⟨Tz t,XK ([]++ [w])⟩:=by
    rintro m rfl;refine View.o1 6 [0,1,2,3,5] [] ?_
    .repeat(first|exact .nil _|refine .put (by simp[bh]) rfl (.eq rfl aG) ?_)
   refine mP (b:=[]) (λe1=>?_) (λe1=>?_)
   .exact⟨[],skip (.inl e1),cT⟩
   refine mP (b:=[46]) (λe2=>?_) (λe2=>?_)
   .exact⟨[],skip (.inr e2),cT⟩
   refine mP (b:=[46,46]) (λe3=>?_) (λe3=>?_)
   .exact⟨(show 1*16<=140737488355328 by omega),_,eX e1 e2 (.inl e3),gU _ rfl⟩
   .refine tT w ?_;refine aC (λe4=>?_) (λe4=>?_)
    .exact⟨(show 1*16<=140737488355328 by omega),_,eX e1 e2 (.inr e4),gU _ rfl⟩
    .rw[bad e1 e2 e3 e4];exact kL (.bv 1)
  |cons x r=>
   have cT:View 0 ⟨Tz t,XK (x::r)⟩ ⟨Tz t,XK (x::r)⟩:=by
    refine View.o1 5 [0,1,2,3,4] [] ?_
    .refine .put (by simp[bh]) rfl (.eq rfl aG) (.put (by simp[bh]) rfl (.eq rfl aG) (.put (by simp[bh]) rfl (.eq rfl aG) (.put (by simp[bh]) rfl (.eq rfl aG) (.put (by simp[bh]) rfl (.bg rfl) (.nil _)))))
   have gU:∀m,m=([.var [.bv],.var [.ai (.val (.bool false))],.var [.ai (.val (.int .i64 0))],.var [.row 6 1 0 none],.aE,.aE,.row 1 (aa ((x::r).map tD)++ [[.ai (.val (.string (cZ w)))]])]:Mem)->View 0 ⟨Tz t,m⟩ ⟨Tz t,XK ((x::r)++ [w])⟩:=by
    rintro m rfl;refine View.o1 7 [0,1,2,3,6] [] ?_
    .refine .put (by simp[bh]) rfl (.eq rfl aG) (.put (by simp[bh]) rfl (.eq rfl aG) (.put (by simp[bh]) rfl (.eq rfl aG) (.put (by simp[bh]) rfl (.eq rfl aG) (.put (by simp[bh]) rfl (.bg ?_) (.nil _)))))
     show _=aa (((x::r)++ [w]).map tD);rw[abT,bU];rfl
   have ns:((aa ((x::r).map tD)).length+1)*16<=140737488355328:=by simp[aa];simp at hlen;omega
   refine mP (b:=[]) (λe1=>?_) (λe1=>?_)
   .exact⟨_,skip (.inl e1),cT⟩
   refine mP (b:=[46]) (λe2=>?_) (λe2=>?_)
   .exact⟨_,skip (.inr e2),cT⟩
   refine mP (b:=[46,46]) (λe3=>?_) (λe3=>?_)
   .exact⟨ns,_,eX e1 e2 (.inl e3),gU _ rfl⟩
   .refine tT w ?_;refine aC (λe4=>?_) (λe4=>?_)
    .exact⟨ns,_,eX e1 e2 (.inr e4),gU _ rfl⟩
    .rw[bad e1 e2 e3 e4];exact kL (.bv 1)
 .intro out hJ;obtain⟨ho,hg⟩:=hJ;have fb:(jl 47 (cZ t)).length=(iU 47 t).length:=by simp[jl]
  rw[fb,abo]at ho hg;have hs:df t=(out,decide (t[0]? =some 47),0):=by rw[df,if_neg h0,if_neg om,hg];simp[C2,ho]
  rw[hs];obtain⟨c,r,rfl⟩:∃c r,t=c::r:=by
   cases t with
   |nil=>exact absurd rfl h0
   |cons c r=>exact⟨c,r,rfl⟩
  have hc:decide ((c::r)[0]? =some 47)=((c.toNat:Int)==47):=Ty c r;cases out with
  |nil=>
   rw[hc];refine⟨trivial,trivial,trivial,?_⟩;exact kL (l:=[]) (c:= .bv) (.bv 1)
  |cons x r=>
   rw[hc];refine⟨trivial,trivial,trivial,?_⟩;exact kL (l:=x::r) (c:= .row 4 1 0 none) (eF.db (ds:=(x::r).map tD) rfl 0 none)
theorem zd(t:eh){m:Mem}{K:CV->Mem->Prop}(h:K (XJ (df t)) m):aq prog 75 [vT t] m K:=
 aT (aR func75 l75 (HQ t)) (by simp[vT,ei,CV.cY,CC.cY]) λr m1 hf=>⟨_,hf,h⟩
end bY
namespace bY
theorem aJ(l:List (List Dt)):(aa l).length=l.length:=by simp[aa]
end bY
def obZ:Ob:=⟨0,[],[],⟨#[]⟩,0,noD,0,0,0⟩
def lB(l:List Ob)(n:Nat):Ob:=(l[n]?).getD obZ
theorem vE{l:List Ob}{n:Nat}(h:n<l.length):lB l n=l[n]:=by rw[lB,xm h];rfl
structure R4 where
 obj:Int
 dir:Int
 name:bY.eh
 iq:Int
def R4.no(e:Int):R4:=⟨0,0,[],e⟩
def jv(o:Ob):List NE:=o.ag.map kN
def ml(l:List Ob)(dq:Nat)(w:bY.eh):Int:=fq (jv (lB l dq)) (bY.cZ w)
def ze(l:List Ob)(dq:Nat):Nat:=(lB l dq).up.toNat
def BD(l:List Ob)(aB:Nat)(aD follow:Bool)(rec:Nat->List bY.eh->Nat->R4):List bY.eh->Nat->R4
 | [],a=>⟨a,ze l a,[],0⟩
 |w::rest,a=>
  if(lB l a).ah≠2 then R4.no 11
  else if w=[46,46]then(if aD=true/\a=aB then R4.no 14 else BD l aB aD follow rec rest (ze l a))
  else if ml l a w<0 then(if rest≠[]then R4.no 6 else⟨-1,a,w,0⟩)
  else if(lB l (ml l a w).toNat).ah=3/\(follow=true\/rest≠[])then rec a rest (ml l a w).toNat
  else if rest=[]then⟨ml l a w,a,w,0⟩
  else BD l aB aD follow rec rest (ml l a w).toNat
def Ke(l:List Ob)(k:Nat):bY.eh:=(lB l k).target.data.toList
def NW(l:List Ob)(aD:Bool)(wk:List bY.eh->Nat->R4)(a:Nat)(rest:List bY.eh)(k:Nat):R4:=
 if(bY.df (Ke l k)).2.2≠0 then R4.no (bY.df (Ke l k)).2.2
 else if(bY.df (Ke l k)).2.1=true/\aD=true then R4.no 14
 else wk ((bY.df (Ke l k)).1++rest) (if(bY.df (Ke l k)).2.1=true then 0 else a)
def xH(l:List Ob)(aB:Nat)(aD follow:Bool):Nat->List bY.eh->Nat->R4
 |0=>BD l aB aD follow λ_ _ _=>R4.no 13
 |n+1=>BD l aB aD follow (NW l aD (xH l aB aD follow n))
def oI(l:List Ob)(aB:Int)(s:bY.eh)(aD follow:Bool):R4:=
 if gx l aB 0=true then
  if(lB l aB.toNat).ah≠2 then R4.no 11
  else if(bY.df s).2.2≠0 then R4.no (bY.df s).2.2
  else if(bY.df s).2.1=true/\aD=true then R4.no 14
  else xH l aB.toNat aD follow 6 (bY.df s).1 (if(bY.df s).2.1=true then 0 else aB.toNat)
 else R4.no 6
structure ph(l:List Ob):Prop where
 len:l.length<=64
 pos:0<l.length
 en:∀o,o∈l->VR l.length o.ah o.ag
 ne:∀o,o∈l->o.ag.length<=64
 up:∀o,o∈l->0<=o.up/\o.up<l.length
theorem ph.XL{l:List Ob}(h:ph l)(n:Nat):ze l n<l.length:=by
 rw[ze,lB];cases hn:l[n]? with
 |none=>show(0:Int).toNat<l.length;have:=h.pos;simpa using this
 |some o=>have:=h.up o (Wm hn);show o.up.toNat<l.length;omega
theorem ph.P4{l:List Ob}(h:ph l){n:Nat}(hn:n<l.length):l[n].up=(ze l n:Nat):=by rw[ze,vE hn];have:=h.up _ (aaP hn);omega
theorem ph.dh{l:List Ob}(h:ph l)(n:Nat):Hf (jv (lB l n))/\(∀e,e∈jv (lB l n)->0<=e.2/\e.2<(l.length:Int))/\(jv (lB l n)).length<=64/\∀hn:n<l.length,l[n].ag=(jv (lB l n)).map bT:=by
 rw[lB];cases hn:l[n]? with
 |none=>
  refine⟨List.Pairwise.nil,by simp[jv,obZ],by simp[jv,obZ],λh=>?_⟩
  rw[xm h]at hn;cases hn
 |some o=>
  obtain⟨es,h1,h2,h3,h4⟩:=(h.en o (Wm hn)).ex;have h5:jv o=es:=by rw[jv,h1,iI]
  show Hf (jv o)/\(∀e,e∈jv o->_)/\(jv o).length<=64/\∀hn:n<l.length,l[n].ag=(jv o).map bT;rw[h5];refine⟨h2,h3,?_,λh=>?_⟩
  .have:=h.ne o (Wm hn);rw[h1,P2]at this;exact this
  .rw[xm h]at hn;cases hn;exact h1
theorem ph.XM{l:List Ob}(h:ph l)(n:Nat)(w:bY.eh)(hf:¬ml l n w<0):∃k:Nat,ml l n w=k/\k<l.length:=by
 obtain⟨_,h2,_,_⟩:=h.dh n;rcases iw (jv (lB l n)) (bY.cZ w)with⟨e,he,_,h3⟩|⟨h3,_⟩
 .obtain⟨h4,h5⟩:=h2 e he;exact⟨e.2.toNat,by rw[ml,h3];omega,om⟩
 .rw[ml,h3]at hf;omega
theorem P5{a b:ByteArray}:mO a b<0↔CI a b:=by
 unfold mO CI;by_cases h:V1 a b=true
 .rw[if_pos h];exact⟨λ_=>h,λ_=>om⟩
 .rw[if_neg h];refine⟨λh2=>?_,λh2=>absurd h2 h⟩
  split at h2<;>omega
theorem zf{a b:ByteArray}:mO a b=0↔a.toList=b.toList:=by
 unfold mO;by_cases h:V1 a b=true
 .rw[if_pos h];refine⟨λh2=>om,λh2=>?_⟩
  rw[V1,h2,qG]at h;cases h
 .rw[if_neg h];rw[adS]at h;by_cases h2:ZC a b=true
  .rw[if_pos h2];refine⟨λh3=>om,λh3=>?_⟩
   unfold ZC at h2;rw[h3]at h2;simp at h2
  .rw[if_neg h2];refine⟨λ_=>?_,λ_=>rfl⟩
   unfold ZC at h2;unfold V1 at h;rw[h]at h2;simpa using h2
theorem qT{es:List NE}(hs:Hf es)(s:ByteArray):∀(n i j:Nat),j-i<=n->i<=j->j<=es.length->(∀(k:Nat)e,k<i->es[k]? =some e->CI e.1 s)->(∀(k:Nat)e,j<=k->es[k]? =some e->¬CI e.1 s)->
  Mm es s n i j<=es.length/\(∀(k:Nat)e,k<Mm es s n i j->es[k]? =some e->CI e.1 s)/\∀(k:Nat)e,Mm es s n i j<=k->es[k]? =some e->¬CI e.1 s
 |0,i,j,hn,tw,hj,h1,h2=>by have:i=j:=om;subst this;exact⟨hj,h1,h2⟩
 |n+1,i,j,hn,tw,hj,h1,h2=>by
  rw[Mm];by_cases ay:i<j
  .rw[if_pos ay];have hh:(i+j)/2<es.length:=om;rw[xm hh];simp only[];have hp:=adI.1 hs;by_cases hc:mO es[(i+j)/2].1 s<0
   .rw[if_pos hc];refine qT hs s n _ _ om om hj (λk e hk he=>?_) h2
    have ia:=P5.1 hc;obtain⟨ef,rfl⟩:=Mp.1 he;rcases aaD k ((i+j)/2)with h3|h3
    .exact tV (hp k _ ef hh h3) ia
    .have:k=(i+j)/2:=om;subst this;exact ia
   .rw[if_neg hc];refine qT hs s n _ _ om om om h1 λk e hk he hl=>?_
    have ia:¬CI es[(i+j)/2].1 s:=λh=>hc (P5.2 h)
    obtain⟨ef,rfl⟩:=Mp.1 he;rcases aaD ((i+j)/2) k with h3|h3
    .exact ia (tV (hp _ k hh ef h3) hl)
    .have:k=(i+j)/2:=om;subst this;exact ia hl
  .rw[if_neg ay];have:i=j:=om;subst this;exact⟨hj,h1,h2⟩
theorem Kf{es:List NE}(hs:Hf es)(s:ByteArray):o9 es s (if CY es s=true then(match es[sL es s]? with|some e=>e.2|none=>0)else -1):=by
 obtain⟨h0,h1,h2⟩:=qT hs s es.length 0 es.length om om om (λk e hk=>absurd hk (abq k)) (λk e hk he=>by have:=(Mp.1 he).1;omega)
 have hI:Mm es s es.length 0 es.length=sL es s:=rfl;rw[hI]at h0 h1 h2;unfold CY;cases he:es[sL es s]? with
 |none=>
  simp only[];rw[if_neg aG];refine .inr ⟨rfl,λe hm heq=>?_⟩
  obtain⟨k,hk⟩:=aag hm;have ef:=(Mp.1 hk).1;have:es.length<=sL es s:=adC.1 he;have:=h1 k e om hk;rw[CI,heq,qG]at this;cases this
 |some e=>
  simp only[];by_cases hc:mO e.1 s=0
  .rw[if_pos (by rw[hc];rfl)]
   exact .inl ⟨e,Wm he,zf.1 hc,rfl⟩
  .rw[if_neg (by simpa using hc)]
   refine .inr ⟨rfl,λe' hm heq=>?_⟩
   obtain⟨k,hk⟩:=aag hm;obtain⟨ef,oc⟩:=Mp.1 hk;obtain⟨LK,o7⟩:=Mp.1 he;rcases aex k (sL es s)with h3|h3|h3
   .have:=h1 k e' h3 hk;rw[CI,heq,qG]at this;cases this
   .subst h3;rw[he]at hk;cases hk;exact hc (zf.2 heq)
   .have hp:=adI.1 hs _ k LK ef h3;rw[o7,oc]at hp;have lQ:=h2 _ e (aah _) he;apply lQ;rw[CI,<-heq];exact hp
theorem C3(d:List (List Dt))(hb:d.length<=4194304):body prog c107 [tP 1 d] [] (λr m=>∃r' m',View 0 ⟨[r],m⟩ ⟨[r'],m'⟩/\r'= .rv (.one (.row 0 1 0 none))/\m'=[.row 1 (aa d)]):=by
 have ns:((([]:List (List CC)).length+(d.map λds=>ds.map CC.ai).length)*1)<=140737488355328:=by simp;omega
 have gU:∃r' m',View 0 ⟨[CV.rv (.one (.row 1 1 0 none))],[.aE,.row 1 (bt ([]:List (List CC)) 0 none++d.map λds=>ds.map CC.ai)]⟩ ⟨[r'],m'⟩/\r'=CV.rv (.one (.row 0 1 0 none))/\m'=[Bk.row 1 (aa d)]:=
  ⟨_,_,View.o 2 [1] [] (.eq rfl .nil) (.pn rfl rfl rfl),rfl,rfl⟩
 refine aC (λh=>?_) (λh=>?_)
 .have hd:d=[]:=aaW (by simpa using aaX h)
  refine⟨?_,ns,gU⟩;subst hd;exact⟨_,_,View.bv 0 1 0 rfl rfl rfl,rfl,rfl⟩
 .exact⟨ns,gU⟩
theorem jm(Y:Nat->Nat)(ds:List (List Dt)):(aa ds).map (λcs=>cs.map (CC.aO Y))=aa ds:=by simp[aa,ad3,CC.aO]
theorem HR(d:List (List Dt))(hb:d.length<=4194304){m:Mem}{K:CV->Mem->Prop}(h:K (.rv (.one (.row m.length 1 0 none))) (m++ [.row 1 (aa d)])):aq prog 107 [tP 1 d] m K:=by
 refine bi [] m.length rfl rfl rfl rfl (args0:=[tP 1 d]) rfl (λi b' hi=>by simp at hi) (K0:=λr m=>r= .rv (.one (.row 0 1 0 none))/\m=[.row 1 (aa d)]) (bP (aR func107 l107 (C3 d hb)) λr m1 h=>h) (λr m1 hr=>?_)
 obtain⟨rfl,rfl⟩:=hr;refine⟨aad _,?_⟩;show K (.rv (.one (.row (m.length+(0-0)) 1 0 none))) (gC m [.row 1 ((aa d).map (λcs=>cs.map (CC.aO (sg [] m.length))))])
 rw[jm,cw];exact h
def p5(Q:Nat)(o:Obj):List CC:=[.ai (.val (.int .i64 o.ah)),.row Q 1 0 none,.ai (.sl 2 o.ag),.ai (.val (.string o.target)),.ai (.val (.int .i64 o.aI)),
 .ai (.sl 4 (o.aj.map cJ.enc)),.ai (.val (.int .i64 o.aQ)),.ai (.val (.int .i64 o.ak)),.ai (.val (.int .i64 o.up))]
def af5(o:Obj):Nat->Mem
 |0=>[.row 9 [],.aE]
 |_+1=>[.row 9 [p5 1 o],.row 1 (aa o.data)]
theorem Mr(o:Obj)(hf:o.pZ):body prog c108 [cQ [o]] [] (λr m=>r= .rv (.one (.row 0 9 0 none))/\m=[.row 9 [p5 1 o],.row 1 (aa o.data)]):=by
 obtain⟨ah,data,ag,target,aI,aj,aQ,ak,up⟩:=o;obtain⟨Pe,NO,VN,NP⟩:=hf;have Pe:data.length<=4194304:=Pe;have NO:ag.length<=4194304:=NO;have VN:aj.length<=4194304:=VN;have NP:∀q,q∈aj->q.data.length<=4194304:=NP;refine ax (λk=>k<=1) [0,9,10] (λk=>[(11,am .i64 (k:Nat)),(3,.rv (.one (.row 0 9 0 none)))]) (af5 ⟨ah,data,ag,target,aI,aj,aQ,ak,up⟩) (λk=>1-k) 0 (aad _) ?_ (λk hk=>?_)
 .refine View.trans (View.bv 2 4 0 rfl rfl rfl) (View.trans (View.bv 3 9 1 rfl rfl rfl) (View.o1 2 [1,0] [] ?_))
  .exact .put (by simp[bh]) rfl (.eq rfl aG) (.aE (.nil _))
 have hk:k<=1:=hk
 match k,hk with
 |0,_=>
  refine HR data Pe ?_;refine⟨⟨rfl,trivial⟩,?_⟩;refine vf ag NO ?_;refine⟨trivial,?_⟩;refine⟨trivial,?_⟩;refine⟨trivial,?_⟩;refine ax (λj=>j<=aj.length) [0,3,5,9,10,11,24,25] (λj=>[(26,am .i64 (j:Nat)),(6,.rv (.one (.row 4 4 0 none)))])
    (λj=>[.row 9 [],.aE,.var (p5 3 ⟨ah,data,ag,target,aI,aj,aQ,ak,up⟩),.row 1 (aa data),.row 4 (aa ((aj.take j).map cJ.enc))]) (λj=>aj.length-j) 0 (aad _) ?_ (λj hj=>?_)
  .refine View.trans (View.bv 6 4 4 rfl rfl rfl) (View.o1 5 [0,1,2,3,4] [] ?_)
   .exact .pe rfl rfl rfl (.aE (.pe rfl rfl rfl (.pr rfl rfl rfl (.pn rfl rfl rfl))))
  have hj:j<=aj.length:=hj;refine an (λh=>?_) (λh=>?_)
  .have bV:j<aj.length:=by have h:(j:Int)<((aj.map cJ.enc).length:Int):=h;rw[P2]at h;omega
   have As:=xm bV;have LV:=NP _ (aaP bV);generalize aj[j]=q at As LV;obtain⟨qd,qh,qo,qr⟩:=q;have qn:cH (aj.map cJ.enc) (j:Nat)=some [.sl 1 qd,.val (.bool qh),.val (.int .i64 qo),.val (.int .i64 qr)]:=by rw[aY,Rn,As];rfl
   refine af qn ?_;refine ju qd LV ?_;refine⟨?_,?_⟩
   .show((aa ((aj.take j).map cJ.enc)).length+1)*48<=_;simp[aa];omega
   refine⟨j+1,bV,(show aj.length-(j+1)<aj.length-j by omega),View.o2 8 [0,1,2,3,7] [] ?_⟩
   .refine .pe rfl rfl rfl (.aE (.pe rfl rfl rfl (.pr rfl rfl rfl (.pt rfl rfl (.bg ?_) (.nil _)))));rw[nt As,abT,bU];rfl
  .have eO:¬(j:Int)<((aj.map cJ.enc).length:Int):=h;rw[P2]at eO;have hq:aj.take j=aj:=adm om;refine⟨by show(0+1)*128<=140737488355328;omega,?_⟩
   refine⟨1,aah 1,(show 1-1<1-0 by omega),View.o2 7 [6,3] [4] ?_⟩
   .refine .pt rfl rfl (o6.ve (R:=[]) (R':=[]) rfl rfl ?_) (.pn rfl rfl rfl);intro j' c c' h1 h2;have e5:p5 1 ⟨ah,data,ag,target,aI,aj,aQ,ak,up⟩=[.ai (.val (.int .i64 ah)),.row 1 1 0 none,.ai (.sl 2 ag),.ai (.val (.string target)),.ai (.val (.int .i64 aI)),.ai (.sl 4 ((aj.take j).map cJ.enc)),.ai (.val (.int .i64 aQ)),.ai (.val (.int .i64 ak)),.ai (.val (.int .i64 up))]:=by simp[p5,hq]
    rw[e5]at h2
    match j',h1,h2 with
    |0,h1,h2=>cases h1;cases h2;exact .aO (.ai _)
    |1,h1,h2=>cases h1;cases h2;exact .aO (.row 1 1 0 none)
    |2,h1,h2=>cases h1;cases h2;exact .aO (.ai _)
    |3,h1,h2=>cases h1;cases h2;exact .aO (.ai _)
    |4,h1,h2=>cases h1;cases h2;exact .aO (.ai _)
    |5,h1,h2=>cases h1;cases h2;exact .dO (cV.db (Z:=λk=>bh [4] k=true) rfl (by rw[<-aX];rfl) 0 none)
    |6,h1,h2=>cases h1;cases h2;exact .aO (.ai _)
    |7,h1,h2=>cases h1;cases h2;exact .aO (.ai _)
    |8,h1,h2=>cases h1;cases h2;exact .aO (.ai _)
    |n+9,h1,h2=>simp at h1
 |1,_=>exact⟨rfl,rfl⟩
theorem P6{Y:Nat->Nat}(Q:Nat)(o:Obj):(p5 Q o).map (CC.aO Y)=p5 (Y Q) o:=by simp[p5,CC.aO]
theorem TA(o:Obj)(hf:o.pZ){m:Mem}{K:CV->Mem->Prop}(h:K (.rv (.one (.row m.length 9 0 none))) (m++ [.row 9 [p5 (m.length+1) o],.row 1 (aa o.data)])):aq prog 108 [cQ [o]] m K:=by
 refine bi [] m.length rfl rfl rfl rfl rfl (λi b' hi=>by simp at hi) (aR func108 l108 (Mr o hf)) (λr m1 hr=>?_)
 obtain⟨rfl,rfl⟩:=hr;refine⟨aad _,?_⟩;show K (.rv (.one (.row (m.length+(0-0)) 9 0 none))) (gC m [.row 9 [(p5 1 o).map (CC.aO (sg [] m.length))],.row 1 ((aa o.data).map (λcs=>cs.map (CC.aO (sg [] m.length))))])
 rw[P6,jm,cw];exact h
def c66:LF:=Cq prog f66 [] []
theorem l66:bA prog f66=some c66:=by kernel_rfl
def fz(a b:Nat):Nat:=if b<a then b else a
theorem uf(a b:Nat):(if(b:Int)<(a:Int)then(b:Int)else(a:Int))=((fz a b:Nat):Int):=by unfold fz;split<;>split<;>omega
theorem pi(a b:Nat):fz a b<=a/\fz a b<=b:=by unfold fz;split<;>omega
def E0(d:List (List Dt))(dq n:Nat):List (List Dt):=(d.take (fz dq d.length+fz n (d.length-fz dq d.length))).drop (fz dq d.length)
def kp(ah:Int)(d:List (List Dt))(dq n:Int):List (List Dt)×Int:=
 if ah=2 then([],12)else if ah≠1 then([],8)else if dq<0\/n<0 then([],3)else(E0 d dq.toNat n.toNat,0)
def byR(d:List (List Dt)):RV:= .one (.ai (.sl 1 d))
def c67:LF:=Cq prog f67 [[4]] []
theorem l67:bA prog f67=some c67.er:=by kernel_rfl
def zb:List Dt:=[.val (.int .u8 0)]
def XN(d:List (List Dt))(n:Nat):List (List Dt):=d++List.replicate (n-d.length) zb
def rW(d:List (List Dt))(A:Nat)(b:List (List Dt)):List (List Dt):=if b.length=0 then d else dm (XN d (A+b.length)) A b
def P7:Obj:=⟨0,[],[],⟨#[]⟩,0,[],0,0,0⟩
def Ms(o:Obj):RV:= .agg (o.enc.map .ai)
def fM(o:Obj)(dq:Int)(b:List (List Dt)):Obj×Int:=
 if o.ah=2 then(P7,12)else if o.ah≠1 then(P7,8)else if dq<0 then(P7,3)else if dq>60\/(b.length:Int)>60-dq then(P7,15)
 else({o with data:=rW o.data dq.toNat b},0)
def ug:List CC:=[.ai (.val (.int .i64 0)),.bv,.bv,.ai (.val (.string ⟨#[]⟩)),.ai (.val (.int .i64 0)),.bv,.ai (.val (.int .i64 0)),.ai (.val (.int .i64 0)),.ai (.val (.int .i64 0))]
theorem qU{m:Mem}:dK m (.agg ug) (Ms P7):=by
 refine .agg rfl λi c c' h1 h2=>?_
 match i,h1,h2 with
 |0,h1,h2=>cases h1;cases h2;exact .ai _
 |1,h1,h2=>cases h1;cases h2;exact .bv 1
 |2,h1,h2=>cases h1;cases h2;exact .bv 2
 |3,h1,h2=>cases h1;cases h2;exact .ai _
 |4,h1,h2=>cases h1;cases h2;exact .ai _
 |5,h1,h2=>cases h1;cases h2;exact .bv 4
 |6,h1,h2=>cases h1;cases h2;exact .ai _
 |7,h1,h2=>cases h1;cases h2;exact .ai _
 |8,h1,h2=>cases h1;cases h2;exact .ai _
 |n+9,h1,h2=>simp[ug]at h1
theorem E3{m:Mem}{Q:Nat}{o:Obj}{D:List (List Dt)}(h:m[Q]? =some (.row 1 (aa D))):dK m (.agg (p5 Q o)) (Ms {o with data:=D}):=by
 refine .agg rfl λi c c' h1 h2=>?_
 match i,h1,h2 with
 |0,h1,h2=>cases h1;cases h2;exact .ai _
 |1,h1,h2=>cases h1;cases h2;exact eF.db h 0 none
 |2,h1,h2=>cases h1;cases h2;exact .ai _
 |3,h1,h2=>cases h1;cases h2;exact .ai _
 |4,h1,h2=>cases h1;cases h2;exact .ai _
 |5,h1,h2=>cases h1;cases h2;exact .ai _
 |6,h1,h2=>cases h1;cases h2;exact .ai _
 |7,h1,h2=>cases h1;cases h2;exact .ai _
 |8,h1,h2=>cases h1;cases h2;exact .ai _
 |n+9,h1,h2=>simp[p5]at h1
theorem eC(d:List (List Dt)):(aa d).length=d.length:=by simp[aa]
theorem C4(D b:List (List Dt))(A:Nat):dm (aa D) A (aa b)=aa (dm D A b):=by simp[dm,aa,adQ,aeh]
theorem P8(x:Nat):gl 0 x=x:=by simp[gl]
def oJ:LC->LC
 | .seq _ b=>b
 |x=>x
def unW:LC->LC
 | .rO a=>a
 |x=>x
def C57:LC:=oJ (oJ (oJ (oJ c67.code)))
def G57:LC:=unW C57
theorem XO(o:Obj)(D b:List (List Dt))(A:Nat)(h:b.length≠0->A+b.length<=D.length):
  aw prog 0 G57 (oi prog c67.mr (λr m=>cM m r (.bI [Ms {o with data:=if b.length=0 then D else dm D A b},cR 0])))
   ⟨jD 68 [(1,am .i64 (A:Nat)),(2,tP 1 b),(6,.rv (.one (.ptr 0 0))),(8,.rv (.one (.ptr 2 0)))],[.var ug,.row 1 (aa D),.var (p5 1 o)]⟩:=by
 have hm:=pi A D.length;have hmi:pV (am .i64 (if((lenOf (aa D).length 0 none:Nat):Int)<(A:Int)then((lenOf (aa D).length 0 none:Nat):Int)else(A:Int)))=some (fz A D.length):=by have e:lenOf (aa D).length 0 none=D.length:=eC D;rw[e,uf];rfl
 refine af hmi ?_;refine bS (by show(Nat.ble (fz A D.length) (aa D).length&&Nat.ble (aa D).length ((aa D).length-0))=true;rw[eC];simp[ack];omega) ?_
 by_cases hb:b.length=0
 .rw[if_pos hb];refine bS (by show Nat.beq (aa b).length 0=true;rw[eC,hb];rfl) ?_
  exact ic (E3 rfl)
 .rw[if_neg hb];have hle:=h hb;have hmA:fz A D.length=A:=by unfold fz;rw[if_neg om]
  rw[hmA];refine yx (by show Nat.beq (aa b).length 0=false;rw[eC];exact Bool.eq_false_iff.2 λhh=>hb (aaX hh)) ?_
  refine bS (by have e1:=P8 A;show(Nat.beq 1 1&&(Nat.beq 1 1&&(Nat.ble (gl 0 (aa D).length) (aa D).length&&(Nat.ble (gl 0 A+(aa b).length) (gl 0 (aa D).length)&&gu (aa b)))))=true;rw[lG,e1,eC,eC,P8 D.length];simp[ack];omega) ?_
  refine ic (E3 ?_);show some (Bk.row 1 (dm (aa D) (gl 0 A) (aa b)))=_;rw[P8 A,C4]
theorem HS(o:Obj)(hf:o.pZ)(dq:Int)(b:List (List Dt))(hb:b.length<=4194304):body prog c67 [o.cv,am .i64 dq,tP 1 b] [] (λr m=>cM m r (.bI [Ms (fM o dq b).1,cR (fM o dq b).2])):=by
 refine bc (λh1=>?_) (λh1=>?_)
 .have h1:o.ah=2:=h1;rw[fM,if_pos h1];exact ic qU
 have h1:¬o.ah=2:=h1;refine bO (λh2=>?_) (λh2=>?_)
 .have h2:o.ah≠1:=h2;rw[fM,if_neg h1,if_pos h2];exact ic qU
 have h2:¬o.ah≠1:=by simpa using h2
 refine an (λh3=>?_) (λh3=>?_)
 .rw[fM,if_neg h1,if_neg h2,if_pos h3];exact ic qU
 have h3:¬dq<0:=h3;refine an (λh4=>?_) (λh4=>?_)
 .rw[fM,if_neg h1,if_neg h2,if_neg h3,if_pos (.inl h4)];exact ic qU
 have h4:¬dq>60:=h4;have hw:IntKind.i64.wrap (60-dq)=60-dq:=by obtain⟨z,hz⟩:∃z:Nat,60-dq=(z:Int):=⟨(60-dq).toNat,om⟩;rw[hz,mG om]
 refine an (λh5=>?_) (λh5=>?_)
 .have h5:(b.length:Int)>IntKind.i64.wrap (60-dq):=h5;rw[hw]at h5;rw[fM,if_neg h1,if_neg h2,if_neg h3,if_pos (.inr h5)];exact ic qU
 have h5:¬(b.length:Int)>IntKind.i64.wrap (60-dq):=h5;rw[hw]at h5;rw[fM,if_neg h1,if_neg h2,if_neg h3,if_neg (λh=>h.elim h4 h5)]
 obtain⟨A,rfl⟩:∃A:Nat,dq=A:=⟨dq.toNat,om⟩;rw[show((A:Nat):Int).toNat=A from rfl];have lF:=hf.1;refine eR (jr:=[cQ [o]]) (m':=[.var (o.enc.map .ai),.var ug,.aE]) (View.o 3 [0,1,2] [2] (.put (.rv (.one (.dO (cV.db (Z:=λk=>bh [2] k=true) (ds:=[o.enc]) rfl rfl 0 none)))) .nil)
  (.pe rfl rfl rfl (.pe rfl rfl rfl (.aE (.nil _))))) ?_
 refine TA o hf ?_;obtain⟨N,hN⟩:∃N:Nat,N=if b.length=0 then 0 else A+b.length-o.data.length:=⟨_,rfl⟩
 have hN0:b.length=0->N=0:=λh0=>by rw[hN,if_pos h0]
 have hN1:b.length≠0->N=A+b.length-o.data.length:=λh0=>by rw[hN,if_neg h0]
 have akX:N<=A+b.length-o.data.length:=by
  by_cases h0:b.length=0
  .rw[hN0 h0];exact aad _
  .rw[hN1 h0];exact aah _
 clear hN;have XP:∀j,j<=N->(o.data++List.replicate j zb).length=o.data.length+j:=λj _=>aG
 have hwA:IntKind.i64.wrap ((A:Int)+(b.length:Int))=((A+b.length:Nat):Int):=by
  rw[show(A:Int)+(b.length:Int)=((A+b.length:Nat):Int) by omega,mG om]
 refine ax (λj=>j<=N) [1,2] (λj=>[(6,.rv (.one (.ptr 0 0))),(8,.rv (.one (.ptr 2 0)))]) (λj=>[.var ug,.row 1 (aa (o.data++List.replicate j zb)),.var (p5 1 o)]) (λj=>N-j) 0 (aad _) ?_ (λj hj=>?_)
 .refine View.o1 6 [1,4,5] [] ?_
  .exact .pe rfl rfl rfl (.pt rfl rfl (.bg aG) (.pm rfl rfl rfl))
 have hj:j<=N:=hj;have hlen:lenOf (aa (o.data++List.replicate j zb)).length 0 none=o.data.length+j:=by show(aa (o.data++List.replicate j zb)).length=_;rw[eC,XP j hj]
 have gU:∀(D:List (List Dt)),D=o.data++List.replicate j zb->(b.length≠0->A+b.length<=o.data.length+j)->aw prog 0 G57 (oi prog c67.mr (λr m=>cM m r (.bI [Ms {o with data:=rW o.data A b},cR 0])))
   ⟨jD 68 [(1,am .i64 (A:Nat)),(2,tP 1 b),(6,.rv (.one (.ptr 0 0))),(8,.rv (.one (.ptr 2 0)))],[.var ug,.row 1 (aa D),.var (p5 1 o)]⟩:=λD hD hh=>by
  have hs:=XO o D b A (λh0=>by rw[hD,XP j hj];exact hh h0)
  have e:rW o.data A b=if b.length=0 then D else dm D A b:=by
   unfold rW;by_cases h0:b.length=0
   .rw[if_pos h0,if_pos h0,hD];have:=hN0 h0;have ej:j=0:=om;rw[ej];simp
   .rw[if_neg h0,if_neg h0,hD];have:=hh h0;have ej:j=A+b.length-o.data.length:=om;rw[XN,ej]
  rw[e];exact hs
 have out:∀e,i4 (sg [0,1,2] 3) [.var ug,.row 1 (aa (o.data++List.replicate j zb)),.var (p5 1 o)] (λk=>bh [] k=true) e (jD 68 [(1,am .i64 (A:Nat)),(2,tP 1 b),(6,.rv (.one (.ptr 0 0))),(8,.rv (.one (.ptr 2 0)))])->
   View 0 ⟨e,[.var ug,.row 1 (aa (o.data++List.replicate j zb)),.var (p5 1 o)]⟩ ⟨jD 68 [(1,am .i64 (A:Nat)),(2,tP 1 b),(6,.rv (.one (.ptr 0 0))),(8,.rv (.one (.ptr 2 0)))],[.var ug,.row 1 (aa (o.data++List.replicate j zb)),.var (p5 1 o)]⟩:=λe he=>
  View.o 3 [0,1,2] [] he (.pe rfl rfl rfl (.pr rfl rfl rfl (.pm rfl rfl rfl)))
 refine an (λh6=>?_) (λh6=>?_)
 .have h6:((lenOf (aa (o.data++List.replicate j zb)).length 0 none:Nat):Int)<IntKind.i64.wrap ((A:Int)+(b.length:Int)):=h6;rw[hlen,hwA]at h6;refine an (λh7=>?_) (λh7=>?_)
  .have h7:(b.length:Int)>0:=h7;have:=hN1 om;refine⟨by simp only[bt,eC,aaY,acg,XP j hj];omega,?_⟩
   refine⟨j+1,(show j+1<=N by omega),(show N-(j+1)<N-j by omega),View.o1 5 [0,4,2] [] ?_⟩
   .refine .pe rfl rfl rfl (.pt rfl rfl (.bg ?_) (.pm rfl rfl rfl));rw[List.replicate_succ'];simp[bt,aa,zb]
  .have h7:¬(b.length:Int)>0:=h7;refine⟨_,out _ ?_,gU _ rfl (λh0=>om)⟩
   repeat(first|exact .nil|refine .aL ?_|refine .eq rfl ?_)
 .have h6:¬((lenOf (aa (o.data++List.replicate j zb)).length 0 none:Nat):Int)<IntKind.i64.wrap ((A:Int)+(b.length:Int)):=h6;rw[hlen,hwA]at h6;refine⟨_,out _ ?_,gU _ rfl (λh0=>om)⟩
  repeat(first|exact .nil|refine .aL ?_|refine .eq rfl ?_)
theorem E4(o:Obj)(hf:o.pZ)(dq:Int)(b:List (List Dt))(hb:b.length<=4194304){m:Mem}{K:CV->Mem->Prop}(h:K (.bI [Ms (fM o dq b).1,cR (fM o dq b).2]) m):aq prog 67 [o.cv,am .i64 dq,tP 1 b] m K:=
 aT (cN func67 l67 (HS o hf dq b hb)) (by simp[Obj.cv,Obj.enc,tP,am,CV.cY,CC.cY,RV.cY]) λr m1 hf=>⟨_,hf,h⟩
def mb(p Q k:Nat)(o:Obj):List CC:=[.ai (.val (.int .i64 o.ah)),.ai (.sl 1 o.data),(if k=p then .row Q 2 0 none else .ai (.sl 2 o.ag)),.ai (.val (.string o.target)),.ai (.val (.int .i64 o.aI)),
 .ai (.sl 4 (o.aj.map cJ.enc)),.ai (.val (.int .i64 o.aQ)),.ai (.val (.int .i64 o.ak)),.ai (.val (.int .i64 o.up))]
def cm(p Q:Nat):Nat->List Obj->List (List CC)
 |_,[]=>[]
 |k,o::r=>mb p Q k o::cm p Q (k+1) r
theorem uh(p Q:Nat):∀(a:List Obj)(k:Nat)(b:List Obj),cm p Q k (a++b)=cm p Q k a++cm p Q (k+a.length) b
 | [],k,b=>rfl
 |o::r,k,b=>by simp[cm,uh p Q r (k+1) b,acL,Nat.add_comm 1]
theorem gZ(p Q:Nat):∀(l:List Obj)(k:Nat),(cm p Q k l).length=l.length
 | [],_=>rfl
 |o::r,k=>by simp[cm,gZ p Q r (k+1)]
theorem zg(p Q:Nat):∀(l:List Obj)(k:Nat),(p<k\/k+l.length<=p)->cm p Q k l=aa (l.map Obj.enc)
 | [],_,_=>rfl
 |o::r,k,h=>by simp only[aaY]at h;have hk:¬k=p:=om;simp only[cm,mb,if_neg hk,zg p Q r (k+1) om];rfl
theorem g9(p Q:Nat):∀(l:List Obj)(k i:Nat),(cm p Q k l)[i]? =(l[i]?).map (mb p Q (k+i))
 | [],k,i=>by simp[cm]
 |o::r,k,0=>by simp[cm]
 |o::r,k,i+1=>by
  simp only[cm,adF,g9 p Q r (k+1) i];rw[show k+1+i=k+(i+1) by omega]
theorem P9{Y:Nat->Nat}{p Q k:Nat}(o:Obj):(mb p Q k o).map (CC.aO Y)=mb p (Y Q) k o:=by
 by_cases h:k=p<;>simp[mb,h,CC.aO]
theorem oK{Y:Nat->Nat}(p Q:Nat):∀(l:List Obj)(k:Nat),(cm p Q k l).map (λcs=>cs.map (CC.aO Y))=cm p (Y Q) k l
 | [],_=>rfl
 |o::r,k=>by simp only[cm,ac6,oK p Q r (k+1)];rw[P9]
theorem C5(d:List (List Dt))(hb:d.length<=4194304):body prog c138 [tP 2 d] [] (λr m=>∃r' m',View 0 ⟨[r],m⟩ ⟨[r'],m'⟩/\r'= .rv (.one (.row 0 2 0 none))/\m'=[.row 2 (aa d)]):=by
 have ns:((([]:List (List CC)).length+(d.map λds=>ds.map CC.ai).length)*24)<=140737488355328:=by simp;omega
 have gU:∃r' m',View 0 ⟨[CV.rv (.one (.row 1 2 0 none))],[.aE,.row 2 (bt ([]:List (List CC)) 0 none++d.map λds=>ds.map CC.ai)]⟩ ⟨[r'],m'⟩/\r'=CV.rv (.one (.row 0 2 0 none))/\m'=[Bk.row 2 (aa d)]:=
  ⟨_,_,View.o 2 [1] [] (.eq rfl .nil) (.pn rfl rfl rfl),rfl,rfl⟩
 refine aC (λh=>?_) (λh=>?_)
 .have hd:d=[]:=aaW (by simpa using aaX h)
  refine⟨?_,ns,gU⟩;subst hd;exact⟨_,_,View.bv 0 2 0 rfl rfl rfl,rfl,rfl⟩
 .exact⟨ns,gU⟩
theorem HT(d:List (List Dt))(hb:d.length<=4194304){m:Mem}{K:CV->Mem->Prop}(h:K (.rv (.one (.row m.length 2 0 none))) (m++ [.row 2 (aa d)])):aq prog 138 [tP 2 d] m K:=by
 refine bi [] m.length rfl rfl rfl rfl (args0:=[tP 2 d]) rfl (λi b' hi=>by simp at hi) (K0:=λr m=>r= .rv (.one (.row 0 2 0 none))/\m=[.row 2 (aa d)]) (bP (aR func138 l138 (C5 d hb)) λr m1 h=>h) (λr m1 hr=>?_)
 obtain⟨rfl,rfl⟩:=hr;refine⟨aad _,?_⟩;show K (.rv (.one (.row (m.length+(0-0)) 2 0 none))) (gC m [.row 2 ((aa d).map (λcs=>cs.map (CC.aO (sg [] m.length))))])
 rw[jm,cw];exact h
def C6(l:List Obj)(p k:Nat):Bk:=match Nat.blt p k with|true=>.row 2 (aa (match l[p]? with|some o=>o.ag|none=>[]))|false=>.aE
theorem xI{Y:Nat->Nat}(l:List Obj)(p k:Nat):(C6 l p k).aO Y=C6 l p k:=by
 unfold C6;split
 .exact Bk.eQ _ _
 .rfl
theorem zh{p Q:Nat}{l:List Obj}{k:Nat}{o:Obj}(h:l[k]? =some o):cm p Q 0 (l.take (k+1))=cm p Q 0 (l.take k)++ [mb p Q k o]:=by have hk:=(Mp.1 h).1;rw[nt h,uh,abg,ael om,acA];rfl
theorem Mt(l:List Obj)(hf:m8 l)(p:Nat):body prog c108 [cQ l] [] (λr m=>r= .rv (.one (.row 0 9 0 none))/\m=[.row 9 (cm p 1 0 l),C6 l p l.length]):=by
 obtain⟨hl,Ox⟩:=hf;refine ax (λk=>k<=l.length) [0,9,10] (λk=>[(11,am .i64 (k:Nat)),(3,.rv (.one (.row 0 9 0 none)))]) (λk=>[.row 9 (cm p 1 0 (l.take k)),C6 l p k]) (λk=>l.length-k) 0 (aad _) ?_ (λk hk=>?_)
 .refine View.trans (View.bv 2 4 0 rfl rfl rfl) (View.trans (View.bv 3 9 1 rfl rfl rfl) (View.o1 2 [1,0] [] ?_))
  .exact .put (by simp[bh]) rfl (.eq rfl aG) (.aE (.nil _))
 .refine an (λh=>?_) (λh=>?_)
  .have ay:k<l.length:=by have h:(k:Int)<((l.map Obj.enc).length:Int):=h;rw[P2]at h;omega
   have hi:=xm ay;have Sg:=Ox _ (aaP ay);have hg:cH (l.map Obj.enc) (k:Nat)=some (l[k].enc):=by rw[aY,Rn,xm ay];rfl
   generalize l[k]=o at hi Sg hg;obtain⟨ah,data,ag,target,aI,aj,aQ,ak,up⟩:=o;obtain⟨Pe,NO,VN,NP⟩:=Sg;have Pe:data.length<=4194304:=Pe;have NO:ag.length<=4194304:=NO;have VN:aj.length<=4194304:=VN;have NP:∀q,q∈aj->q.data.length<=4194304:=NP;have hg:cH (l.map Obj.enc) (k:Nat)=some [.val (.int .i64 ah),.sl 1 data,.sl 2 ag,.val (.string target),.val (.int .i64 aI),.sl 4 (aj.map cJ.enc),.val (.int .i64 aQ),.val (.int .i64 ak),.val (.int .i64 up)]:=hg;refine af hg ?_;refine ju data Pe ?_;refine⟨⟨rfl,trivial⟩,?_⟩;by_cases WU:k=p
   .subst WU;refine HT ag NO ?_;refine⟨trivial,?_⟩;refine⟨trivial,?_⟩;refine⟨trivial,?_⟩;have hR:∀Q,cm k Q 0 (l.take k)=aa ((l.take k).map Obj.enc):=λQ=>zg k Q _ 0 (.inr (by simp;omega))
    have hd:C6 l k k= .aE:=by
     have:Nat.blt k k=false:=Bool.eq_false_iff.2 λh=>by rw[adw]at h;omega
     simp only[C6,this]
    rw[hd,hR];refine ax (λj=>j<=aj.length) [0,3,5,9,10,11,24,25] (λj=>[(26,am .i64 (j:Nat)),(6,.rv (.one (.row 4 4 0 none)))])
     (λj=>[.row 9 (aa ((l.take k).map Obj.enc)),.aE,.var [.ai (.val (.int .i64 ah)),.ai (.sl 1 data),.row 3 2 0 none,.ai (.val (.string target)),.ai (.val (.int .i64 aI)),.ai (.sl 4 (aj.map cJ.enc)),.ai (.val (.int .i64 aQ)),.ai (.val (.int .i64 ak)),.ai (.val (.int .i64 up))],.row 2 (aa ag),.row 4 (aa ((aj.take j).map cJ.enc))]) (λj=>aj.length-j) 0 (aad _) ?_ (λj hj=>?_)
    .refine View.trans (View.bv 6 4 4 rfl rfl rfl) (View.o1 5 [0,1,2,3,4] [] ?_)
     .exact .pr rfl rfl rfl (.aE (.pe rfl rfl rfl (.pr rfl rfl rfl (.pn rfl rfl rfl))))
    .have hj:j<=aj.length:=hj;refine an (λh=>?_) (λh=>?_)
     .have bV:j<aj.length:=by have h:(j:Int)<((aj.map cJ.enc).length:Int):=h;rw[P2]at h;omega
      have As:=xm bV;have LV:=NP _ (aaP bV);generalize aj[j]=q at As LV;obtain⟨qd,qh,qo,qr⟩:=q;have qn:cH (aj.map cJ.enc) (j:Nat)=some [.sl 1 qd,.val (.bool qh),.val (.int .i64 qo),.val (.int .i64 qr)]:=by rw[aY,Rn,As];rfl
      refine af qn ?_;refine ju qd LV ?_;refine⟨?_,?_⟩
      .show((aa ((aj.take j).map cJ.enc)).length+1)*48<=_;simp[aa];omega
      refine⟨j+1,bV,(show aj.length-(j+1)<aj.length-j by omega),View.o2 8 [0,1,2,3,7] [] ?_⟩
      .refine .pr rfl rfl rfl (.aE (.pe rfl rfl rfl (.pr rfl rfl rfl (.pt rfl rfl (.bg ?_) (.nil _)))));rw[nt As,abT,bU];rfl
     .have eO:¬(j:Int)<((aj.map cJ.enc).length:Int):=h;rw[P2]at eO;have hq:aj.take j=aj:=adm om;refine⟨?_,?_⟩
      .show((aa ((l.take k).map Obj.enc)).length+1)*128<=_;simp[aa];omega
      have Xk:C6 l k (k+1)= .row 2 (aa ag):=by
       have:Nat.blt k (k+1)=true:=by rw[adw];omega
       simp only[C6,this,hi]
      refine⟨k+1,ay,(show l.length-(k+1)<l.length-k by omega),View.o2 7 [6,3] [4] ?_⟩
      .rw[zh hi,Xk,hR];refine .pt rfl rfl (.ve (jm _ _) rfl ?_) (.pn rfl rfl rfl);intro j' c c' h1 h2;have e5:mb k 1 k ⟨ah,data,ag,target,aI,aj,aQ,ak,up⟩=[.ai (.val (.int .i64 ah)),.ai (.sl 1 data),.row 1 2 0 none,.ai (.val (.string target)),.ai (.val (.int .i64 aI)),.ai (.sl 4 ((aj.take j).map cJ.enc)),.ai (.val (.int .i64 aQ)),.ai (.val (.int .i64 ak)),.ai (.val (.int .i64 up))]:=by simp[mb,hq]
       rw[e5]at h2
       match j',h1,h2 with
       |0,h1,h2=>cases h1;cases h2;exact .aO (.ai _)
       |1,h1,h2=>cases h1;cases h2;exact .aO (.ai _)
       |2,h1,h2=>cases h1;cases h2;exact .aO (.row 1 2 0 none)
       |3,h1,h2=>cases h1;cases h2;exact .aO (.ai _)
       |4,h1,h2=>cases h1;cases h2;exact .aO (.ai _)
       |5,h1,h2=>cases h1;cases h2;exact .dO (cV.db (Z:=λk=>bh [4] k=true) rfl (by rw[<-aX];rfl) 0 none)
       |6,h1,h2=>cases h1;cases h2;exact .aO (.ai _)
       |7,h1,h2=>cases h1;cases h2;exact .aO (.ai _)
       |8,h1,h2=>cases h1;cases h2;exact .aO (.ai _)
       |n+9,h1,h2=>simp at h1
   .refine vf ag NO ?_;refine⟨trivial,?_⟩;refine⟨trivial,?_⟩;refine⟨trivial,?_⟩;refine ax (λj=>j<=aj.length) [0,3,5,9,10,11,24,25] (λj=>[(26,am .i64 (j:Nat)),(6,.rv (.one (.row 3 4 0 none)))])
     (λj=>[.row 9 (cm p 1 0 (l.take k)),C6 l p k,.var ((⟨ah,data,ag,target,aI,aj,aQ,ak,up⟩:Obj).enc.map .ai),.row 4 (aa ((aj.take j).map cJ.enc))]) (λj=>aj.length-j) 0 (aad _) ?_ (λj hj=>?_)
    .refine View.trans (View.bv 6 4 3 rfl rfl rfl) (View.o1 4 [0,1,2,3] [] ?_)
     .exact .pt rfl rfl (.eq (congrArg (Bk.row 9) (oK p 1 _ _)) aG) (.Bm (fR rfl) rfl (xI l p k) (.pe rfl rfl rfl (.pn rfl rfl rfl)))
    .have hj:j<=aj.length:=hj;refine an (λh=>?_) (λh=>?_)
     .have bV:j<aj.length:=by have h:(j:Int)<((aj.map cJ.enc).length:Int):=h;rw[P2]at h;omega
      have As:=xm bV;have LV:=NP _ (aaP bV);generalize aj[j]=q at As LV;obtain⟨qd,qh,qo,qr⟩:=q;have qn:cH (aj.map cJ.enc) (j:Nat)=some [.sl 1 qd,.val (.bool qh),.val (.int .i64 qo),.val (.int .i64 qr)]:=by rw[aY,Rn,As];rfl
      refine af qn ?_;refine ju qd LV ?_;refine⟨?_,?_⟩
      .show((aa ((aj.take j).map cJ.enc)).length+1)*48<=_;simp[aa];omega
      refine⟨j+1,bV,(show aj.length-(j+1)<aj.length-j by omega),View.o2 7 [0,1,2,6] [] ?_⟩
      .refine .pt rfl rfl (.eq (congrArg (Bk.row 9) (oK p 1 _ _)) aG) (.Bm (fR rfl) rfl (xI l p k) (.pe rfl rfl rfl (.pt rfl rfl (.bg ?_) (.nil _))));rw[nt As,abT,bU];rfl
     .have eO:¬(j:Int)<((aj.map cJ.enc).length:Int):=h;rw[P2]at eO;have hq:aj.take j=aj:=adm om;refine⟨?_,?_⟩
      .show((cm p 1 0 (l.take k)).length+1)*128<=_;rw[gZ];simp;omega
      have Xk:C6 l p (k+1)=C6 l p k:=by
       have:Nat.blt p (k+1)=Nat.blt p k:=by rw[aeX,adw,adw];omega
       simp only[C6,this]
      refine⟨k+1,ay,(show l.length-(k+1)<l.length-k by omega),View.o2 6 [5,1] [3] ?_⟩
      .rw[zh hi,Xk];refine .pt rfl rfl (.ve (oK p 1 _ _) rfl ?_) (.Bm (fR rfl) rfl (xI l p k) (.nil _));intro j' c c' h1 h2;have e5:mb p 1 k ⟨ah,data,ag,target,aI,aj,aQ,ak,up⟩=[.ai (.val (.int .i64 ah)),.ai (.sl 1 data),.ai (.sl 2 ag),.ai (.val (.string target)),.ai (.val (.int .i64 aI)),.ai (.sl 4 ((aj.take j).map cJ.enc)),.ai (.val (.int .i64 aQ)),.ai (.val (.int .i64 ak)),.ai (.val (.int .i64 up))]:=by simp[mb,WU,hq]
       rw[e5]at h2
       match j',h1,h2 with
       |0,h1,h2=>cases h1;cases h2;exact .aO (.ai _)
       |1,h1,h2=>cases h1;cases h2;exact .aO (.ai _)
       |2,h1,h2=>cases h1;cases h2;exact .aO (.ai _)
       |3,h1,h2=>cases h1;cases h2;exact .aO (.ai _)
       |4,h1,h2=>cases h1;cases h2;exact .aO (.ai _)
       |5,h1,h2=>cases h1;cases h2;exact .dO (cV.db (Z:=λk=>bh [3] k=true) rfl (by rw[<-aX];rfl) 0 none)
       |6,h1,h2=>cases h1;cases h2;exact .aO (.ai _)
       |7,h1,h2=>cases h1;cases h2;exact .aO (.ai _)
       |8,h1,h2=>cases h1;cases h2;exact .aO (.ai _)
       |n+9,h1,h2=>simp at h1
  .have eO:¬(k:Int)<((l.map Obj.enc).length:Int):=h;rw[P2]at eO;have ef:k=l.length:=by have:k<=l.length:=hk;omega
   subst ef;rw[abo];exact⟨rfl,rfl⟩
theorem C7(l:List Obj)(hf:m8 l)(p:Nat){m:Mem}{K:CV->Mem->Prop}(h:K (.rv (.one (.row m.length 9 0 none))) (m++ [.row 9 (cm p (m.length+1) 0 l),C6 l p l.length])):aq prog 108 [cQ l] m K:=by
 refine bi [] m.length rfl rfl rfl rfl rfl (λi b' hi=>by simp at hi) (aR func108 l108 (Mt l hf p)) (λr m1 hr=>?_)
 obtain⟨h1,h2⟩:=hr;subst h1;subst h2;refine⟨aad _,?_⟩;show K (.rv (.one (.row (m.length+(0-0)) 9 0 none))) (gC m [.row 9 ((cm p 1 0 l).map (λcs=>cs.map (CC.aO (sg [] m.length)))),(C6 l p l.length).aO (sg [] m.length)])
 rw[oK,xI,cw];exact h
def c118:LF:=Cq prog f118 [] []
def c149:LF:=Cq prog f149 [] []
theorem l149:bA prog f149=some c149:=by kernel_rfl
theorem l118:bA prog f118=some c118:=by kernel_rfl
theorem E5(e:ByteArray×Int)(s:ByteArray):body prog c149 [y8 e,ei s] [] (λr m=>r=am .i64 (mO e.1 s)):=
 P0 e.1 s rfl
theorem XQ(e:ByteArray×Int)(s:ByteArray){m:Mem}{K:CV->Mem->Prop}(h:K (am .i64 (mO e.1 s)) m):aq prog 149 [y8 e,ei s] m K:=
 bH func149 l149 rfl (aat rfl) (E5 e s) rfl rfl h
def zi(l:List Obj)(es:List (ByteArray×Int))(dir:Nat)(s:ByteArray):Int:=if CY es s=true then(match es[sL es s]? with|some e=>e.2|none=>0)else -1
theorem HU(l:List Obj)(dir:Nat)(hd:dir<l.length)(hk:l[dir].ah=2)(es:List (ByteArray×Int))(he:l[dir].ag=es.map dy)(hl:es.length<=2147483648)(s:ByteArray):body prog c118 [cQ l,am .i64 (dir:Nat),ei s] [] (λr m=>r=am .i64 (zi l es dir s)):=by
 have hg:cH (l.map Obj.enc) (dir:Nat)=some l[dir].enc:=by rw[aY,Rn,xm hd];rfl
 generalize l[dir]=o at hg hk he;obtain⟨ah,data,ag,target,aI,aj,aQ,ak,up⟩:=o;have hk:ah=2:=hk;have he:ag=es.map dy:=he;subst hk he;have hg:cH (l.map Obj.enc) (dir:Nat)=some [.val (.int .i64 2),.sl 1 data,.sl 2 (es.map dy),.val (.string target),.val (.int .i64 aI),.sl 4 (aj.map cJ.enc),.val (.int .i64 aQ),.val (.int .i64 ak),.val (.int .i64 up)]:=hg;refine an (λh1=>?_) (λh1=>?_)
 .exfalso;have h1:(dir:Int)>=((l.map Obj.enc).length:Int):=h1;rw[P2]at h1;omega
 refine af hg ?_;refine af hg ?_;refine P1 es hl s 145 (λe m K h=>V2 e s h) ?_
 refine aC (λh2=>?_) (λh2=>?_)
 .have h2:CY es s=false:=by simpa using h2
  show am _ _=am _ _;rw[zi,if_neg (by rw[h2];simp)]
 .have h2:CY es s=true:=by simpa using h2
  refine af hg ?_;have ay:sL es s<es.length:=by
   unfold CY at h2;split at h2
   .rename_i e he;exact(Mp.1 he).1
   .cases h2
  refine af (qS ay) ?_;show am _ _=am _ _;rw[zi,if_pos h2,xm ay]
theorem E6(l:List Obj)(dir:Nat)(hd:dir<l.length)(hk:l[dir].ah=2)(es:List (ByteArray×Int))(he:l[dir].ag=es.map dy)(hl:es.length<=2147483648)(s:ByteArray){m:Mem}{K:CV->Mem->Prop}(h:K (am .i64 (zi l es dir s)) m):aq prog 118 [cQ l,am .i64 (dir:Nat),ei s] m K:=
 bH func118 l118 rfl (aat rfl) (HU l dir hd hk es he hl s) (by simp[cQ,am,ei,CV.cY,CC.cY,RV.cY]) rfl h
theorem HV(l:List Ob)(ok:ph l)(dir:Nat)(hd:dir<l.length)(hk:l[dir].ah=2)(w:bY.eh):body prog c118 [gE l,am .i64 (dir:Nat),bY.vT w] [] (λr m=>r=am .i64 (ml l dir w)):=by
 obtain⟨xh,EE,hlen,uV⟩:=ok.dh dir;have uV:=uV hd;have hf:ml l dir w=(if CY (jv (lB l dir)) (bY.cZ w)=true then(match (jv (lB l dir))[sL (jv (lB l dir)) (bY.cZ w)]? with|some e=>e.2|none=>0)else -1):=ny xh (iw _ _) (Kf xh _)
 rw[hf];have hg:=fw hd;generalize jv (lB l dir)=es at*
 generalize l[dir]=o at hg hk uV;obtain⟨ah,data,ag,target,aI,aj,aQ,ak,up⟩:=o;have hk:ah=2:=hk;have he:ag=es.map dy:=uV;subst hk he;refine an (λh1=>?_) (λh1=>?_)
 .exfalso;have h1:(dir:Int)>=((l.map Ob.enc).length:Int):=h1;rw[P2]at h1;omega
 refine af hg ?_;refine af hg ?_;refine P1 es om (bY.cZ w) 145 (λe m K h=>V2 e (bY.cZ w) h) ?_
 refine aC (λh2=>?_) (λh2=>?_)
 .have h2:CY es (bY.cZ w)=false:=by simpa using h2
  show am _ _=am _ _;rw[if_neg (by rw[h2];simp)]
 .have h2:CY es (bY.cZ w)=true:=by simpa using h2
  refine af hg ?_;have ay:sL es (bY.cZ w)<es.length:=by
   unfold CY at h2;split at h2
   .rename_i e he;exact(Mp.1 he).1
   .cases h2
  refine af (qS ay) ?_;show am _ _=am _ _;rw[if_pos h2,xm ay]
theorem Qa(l:List Ob)(ok:ph l)(dir:Nat)(hd:dir<l.length)(hk:l[dir].ah=2)(w:bY.eh){m:Mem}{K:CV->Mem->Prop}(h:K (am .i64 (ml l dir w)) m):aq prog 118 [gE l,am .i64 (dir:Nat),bY.vT w] m K:=
 bH func118 l118 rfl (aat rfl) (HV l ok dir hd hk w) rfl rfl h
def ZD(l:List Ob)(aB:Int):Nat->Int->Bool
 |0,_=>false
 |n+1,d=>if gx l d 2=false then false else if d=aB then true else if d=0 then false else ZD l aB n (lB l d.toNat).up
def TB:RV:= .one (.ai (.val (.bool true)))
def gd(n:Nat):ME:=⟨.int .i64 (n:Nat),TB⟩
def nD(L:List Nat)(z:Int):Bool:=L.any λn=>z==(n:Int)
theorem rB(z:Int):∀L:List Nat,ti (.int .i64 z) (L.map gd)=some (if nD L z=true then some TB else none)
 | []=>rfl
 |n::r=>by
  have ih:=rB z r;simp only[ac6,ti,gd,rP,decide_true];simp only[nD,aeI]at ih|-;by_cases h:z=(n:Int)
  .subst h;simp
  .have h1:(z==(n:Int))=false:=by simpa using h
   simp only[h1,adK];exact ih
theorem Qb(z:Int):∀L:List Nat,nD L z=false->B8 (.int .i64 z) TB (L.map gd)=some (L.map gd++ [⟨.int .i64 z,TB⟩])
 | [],_=>rfl
 |n::r,h=>by simp only[nD,aeI,aeY]at h;obtain⟨h1,h2⟩:=h;have ih:=Qb z r h2;simp only[ac6,B8,gd,rP,decide_true,h1];rw[ih];rfl
theorem dn{Y:Nat->Nat}(L:List Nat):(Bk.mp (L.map gd)).aO Y= .mp (L.map gd):=by simp[Bk.aO,RV.aO,CC.aO,gd,TB,ad3]
theorem fT{L:List Nat}{n:Nat}:nD L (n:Int)=true↔n∈L:=by
 rw[nD,acf];constructor
 .rintro⟨x,hx,h⟩;have:(n:Int)=x:=by simpa using h
  have:n=x:=om;rw[this];exact hx
 .intro h;exact⟨n,h,aG⟩
theorem zj{l:List Ob}{aB:Int}(V:List Nat)(h:∀x,x∈V->(x:Int)≠aB/\∃y,y∈V/\(lB l x).up=(y:Nat)):∀(n x:Nat),x∈V->ZD l aB n (x:Nat)=false
 |0,_,_=>rfl
 |n+1,x,hx=>by
  obtain⟨h1,y,hy,h2⟩:=h x hx;rw[ZD];by_cases hI:gx l x 2=false
  .rw[if_pos hI]
  rw[if_neg hI,if_neg h1];by_cases h0:(x:Int)=0
  .rw[if_pos h0]
  rw[if_neg h0,aam,h2];exact zj V h n y hy
theorem zk:∀{N:Nat}{V:List Nat},V.Nodup->(∀x,x∈V->x<N)->V.length<=N
 |0,V,_,h=>by
  cases V with
  |nil=>exact aah _
  |cons x r=>exact absurd (h x aG) (abq x)
 |N+1,V,hd,h=>by
  by_cases hm:N∈V
  .have h1:=List.length_erase_of_mem hm;have h2:=zk (N:=N) (hd.erase N) λx hx=>by rw[hd.mem_erase_iff]at hx;have:=h x hx.2;have:=hx.1;omega
   have:=List.length_pos_of_mem hm;omega
  .have:=zk (N:=N) hd λx hx=>by
    have h1:=h x hx;have:x≠N:=λe=>hm (e▸hx)
    omega
   omega
structure XR where
 d:Int
 V:List Nat
structure TD(l:List Ob)(aB dir:Int)(a:XR):Prop where
 nd:a.V.Nodup
 rg:∀x,x∈a.V->x<l.length
 cl:∀x,x∈a.V->(x:Int)≠aB/\((lB l x).up=a.d\/∃y,y∈a.V/\(lB l x).up=(y:Nat))
 eq:ZD l aB (l.length+1-a.V.length) a.d=ZD l aB (l.length+1) dir
theorem TD.le{l:List Ob}{aB dir:Int}{a:XR}(h:TD l aB dir a):a.V.length<=l.length:=zk h.nd h.rg
theorem TD.w8{l:List Ob}{aB dir:Int}{a:XR}(h:TD l aB dir a){n:Nat}(hn:a.d=n)(hm:n∈a.V):ZD l aB (l.length+1) dir=false:=by
 rw[<-h.eq,hn];refine zj a.V (λx hx=>?_) _ n hm
 obtain⟨h1,h2⟩:=h.cl x hx;refine⟨h1,?_⟩;rcases h2 with h2|h2
 .exact⟨n,hm,h2.trans hn⟩
 .exact h2
def c142:LF:=Cq prog f142 [] [[eL 15 0 .nil],[(eL 14 0 (.cons 14 (some []) .nil))]]
def c143:LF:=Cq prog Tryz.f143 [] [[(.cons 0 none (.cons 2 none (eL 4 4 (.cons 1 (some [7]) (.cons 3 (some [7]) (.cons 8 (some []) (.cons 9 none (.cons 10 none (.cons 11 (some []) .nil)))))))))]]
theorem l142:bA prog f142=some c142:=by kernel_rfl
theorem l143:bA prog Tryz.f143=some c143:=by kernel_rfl
def j0(l:List Ob)(aB:Nat)(aD:Bool)(h a:Nat)(t:List bY.eh):Bk:= .var [.ai (iH l),.ai (.val (.int .i64 (aB:Nat))),.ai (.val (.bool aD)),.ai (.val (.int .i64 (h:Nat))),.ai (.val (.int .i64 (a:Nat))),.ai (bY.txD t)]
theorem zl(l:List Ob)(aB:Nat)(aD:Bool)(h a:Nat)(t:List bY.eh):j0 l aB aD h a t≠.aE:=by intro x;cases x
theorem Qc{f:Nat}{args:List CV}(ha:∀Y,args.map (CV.aO Y)=args){l:List Ob}{aB:Nat}{aD:Bool}{h a:Nat}{t:List bY.eh}{Q:CV->Nat->Nat->List bY.eh->Prop}(hr:∀r h a t,Q r h a t->∀Y,r.aO Y=r)(hc:aq prog f (.rv (.one (.ptr 0 0))::args) [j0 l aB aD h a t] (λr m=>∃h' a' t',m=[j0 l aB aD h' a' t']/\Q r h' a' t')){m:Mem}(id:Nat)(hb:dp m id=some (j0 l aB aD h a t)){K:CV->Mem->Prop}(hK:∀r h' a' t',Q r h' a' t'->K r (aZ m id (j0 l aB aD h' a' t'))):aq prog f (.rv (.one (.ptr id 0))::args) m K:=by
 have hid:id<m.length:=by rw[aX]at hb;exact(Mp.1 hb).1
 refine bi [id] m.length rfl rfl rfl (by simp[eP,hid]) (args0:= .rv (.one (.ptr 0 0))::args) (by rw[ac6,ha];rfl) (λi b' hi=>?_) hc (λr1 m1 DN=>?_)
 .cases i with
  |zero=>
   simp at hi;subst hi;refine .inr ⟨λh=>h,_,?_,.eq rfl (zl _ _ _ _ _ _)⟩
   rw[aX]at hb;exact hb
  |succ i=>simp at hi
 .obtain⟨h',a',t',rfl,hq⟩:=DN;refine⟨aah _,?_⟩;rw[hr _ _ _ _ hq];show K r1 (dA m [id] [j0 l aB aD h' a' t']);rw[yJ];exact hK _ _ _ _ hq
theorem Mu{r:CV}{l:List Ob}{aB:Nat}{aD:Bool}{h a:Nat}{t:List bY.eh}{X:Mem}(hr:∀Y,r.aO Y=r):View 1 ⟨[r],j0 l aB aD h a t::X⟩ ⟨[r],[j0 l aB aD h a t]⟩:=
 View.of (X.length+1) [0] [] rfl rfl rfl rfl rfl (by simp[eP,Nat.blt]) (.eq (hr _) .nil) (.pt rfl rfl (.eq rfl (zl _ _ _ _ _ _)) (.nil _))
def upR(l:List Ob)(aB:Nat)(aD:Bool)(h a:Nat)(t:List bY.eh)(r:CV)(h' a':Nat)(t':List bY.eh):Prop:=
 h'=h/\t'=t/\((aD=true/\a=aB)/\r=ar false/\a'=a\/¬(aD=true/\a=aB)/\r=ar true/\a'=ze l a)
theorem TE(l:List Ob)(ok:ph l)(aB:Nat)(aD:Bool)(h a:Nat)(ha:a<l.length)(t:List bY.eh):body prog c142 [.rv (.one (.ptr 0 0))] [j0 l aB aD h a t] (λr m=>∃h' a' t',m=[j0 l aB aD h' a' t']/\upR l aB aD h a t r h' a' t'):=by
 have hg:=fw ha;have hu:=ok.P4 ha;refine bc (λh1=>?_) (λh1=>?_)
 .cases aD with
  |true=>exact⟨_,_,_,rfl,rfl,rfl,.inl ⟨⟨rfl,om⟩,rfl,rfl⟩⟩
  |false=>
   refine af hg ?_;refine⟨trivial,?_⟩;rw[hu];exact⟨_,_,_,rfl,rfl,rfl,.inr ⟨aG,rfl,rfl⟩⟩
 .refine af hg ?_;refine⟨trivial,?_⟩;rw[hu];exact⟨_,_,_,rfl,rfl,rfl,.inr ⟨λh=>h1 (by rw[h.2]),rfl,rfl⟩⟩
theorem abA(l:List Ob)(ok:ph l)(aB:Nat)(aD:Bool)(h a:Nat)(ha:a<l.length)(t:List bY.eh){m:Mem}(id:Nat)(hb:dp m id=some (j0 l aB aD h a t)){K:CV->Mem->Prop}(hK1:(aD=true/\a=aB)->K (ar false) (aZ m id (j0 l aB aD h a t)))(hK2:¬(aD=true/\a=aB)->K (ar true) (aZ m id (j0 l aB aD h (ze l a) t))):aq prog 142 [.rv (.one (.ptr id 0))] m K:=by
 refine Qc (args:=[]) (λ_=>rfl) (Q:=upR l aB aD h a t) (λr h a t hq Y=>?_) (aR func142 l142 (TE l ok aB aD h a ha t)) id hb (λr h' a' t' hq=>?_)
 .rcases hq.2.2 with⟨_,rfl,_⟩|⟨_,rfl,_⟩<;>rfl
 .obtain⟨rfl,rfl,hq⟩:=hq;rcases hq with⟨h1,rfl,rfl⟩|⟨h1,rfl,rfl⟩
  .exact hK1 h1
  .exact hK2 h1
theorem sN(t:bY.eh):(bY.df t).1.length<=61:=by
 unfold bY.df;split
 .simp
 .split
  .simp
  .split
   .show(bY.C2 t).length<=61;have h1:=adt bY.ud (bY.iU 47 t);have h2:=bY.zc 47 t;unfold bY.C2;omega
   .simp
inductive Sn(p:List bY.eh×Bool×Int)(aD:Bool)(h a:Nat)(t:List bY.eh):CV->Nat->Nat->List bY.eh->Prop
 |loop (h' a':Nat) (t':List bY.eh) (h6:h=6):Sn p aD h a t (am .i64 13) h' a' t'
 |iq (h' a':Nat) (t':List bY.eh) (h6:h≠6) (he:p.2.2≠0):Sn p aD h a t (am .i64 p.2.2) h' a' t'
 |out (h' a':Nat) (t':List bY.eh) (h6:h≠6) (he:p.2.2=0) (hr:p.2.1=true) (hf:aD=true):Sn p aD h a t (am .i64 14) h' a' t'
 |ok (h6:h≠6) (he:p.2.2=0) (hr:¬(p.2.1=true/\aD=true)):Sn p aD h a t (am .i64 0) (h+1) (if p.2.1=true then 0 else a) (p.1++t)
theorem Sn.data{p:List bY.eh×Bool×Int}{aD:Bool}{h a:Nat}{t:List bY.eh}{r:CV}{h' a':Nat}{t':List bY.eh}(x:Sn p aD h a t r h' a' t')(Y:Nat->Nat):r.aO Y=r:=by cases x<;>rfl
def TV1(Q:CV->Mem->Prop)(r:CV)(m:Mem):Prop:=∃r' m',View 1 ⟨[r],m⟩ ⟨[r'],m'⟩/\Q r' m'
theorem TF(a b:List bY.eh):aa (a.map bY.tD)++aa (b.map bY.tD)=aa ((a++b).map bY.tD):=by rw[abT,bY.bU]
theorem abB{m:Mem}{Z:Nat->Prop}{id:Nat}{p:Option Nat}{X:List (List CC)}{ds:List (List Dt)}(hz:Z id)(hm:m[id]? =some (.row 1 X))(hX:X=aa ds):cV m Z p (.row id 1 0 none) (.sl 1 ds):=by
 subst hX;refine cV.row id 1 0 none (aa ds) ds hz hm (by simp[aa]) (λi cs es h1 h2=>?_) (λi cs es j c d h1 h2 h3 h4=>?_)
 .simp only[aa,Rn,h2,aaS,abi]at h1;subst h1;simp
 .simp only[aa,Rn,h2,aaS,abi]at h1;subst h1;rw[Rn,h4]at h3;cases h3;exact .ai _
theorem abC{l:List Ob}{aB:Nat}{aD:Bool}{h a:Nat}{t parts:List bY.eh}{m:Mem}{Y:Nat->Nat}(hm:m[3]? =some (.row 1 ((([]:List (List CC))++aa (parts.map bY.tD))++aa (t.map bY.tD)))):
  o6 Y m (λk=>bh [3] k=true) 0 (.var [.ai (iH l),.ai (.val (.int .i64 (aB:Nat))),.ai (.val (.bool aD)),.ai (.val (.int .i64 (h:Nat))),.ai (.val (.int .i64 (a:Nat))),.row 3 1 0 none]) (j0 l aB aD h a (parts++t)):=
 dC.var (.cons (.aO (.ai _)) (.cons (.aO (.ai _)) (.cons (.aO (.ai _)) (.cons (.aO (.ai _)) (.cons (.aO (.ai _)) (.cons (.dO (abB rfl hm (by rw[aeP];exact TF parts t))) .nil))))))
theorem Mv(l:List Ob)(aB:Nat)(aD:Bool)(h a:Nat)(hh:h<=6)(t:List bY.eh)(ht:t.length<=1000)(s:bY.eh):
  body prog c143 [.rv (.one (.ptr 0 0)),bY.vT s] [j0 l aB aD h a t] (TV1 λr m=>∃h' a' t',m=[j0 l aB aD h' a' t']/\Sn (bY.df s) aD h a t r h' a' t'):=by
 refine bc (λh1=>?_) (λh1=>?_)
 .exact⟨_,_,Mu (X:=[]) (λ_=>rfl),_,_,_,rfl,.loop _ _ _ om⟩
 have h6:h≠6:=λe=>h1 (by rw[e];rfl)
 refine bY.zd s ?_;have hp:=sN s;generalize bY.df s=p at hp|-;obtain⟨parts,aA,er⟩:=p;have hp:parts.length<=61:=hp;have e1:IntKind.i64.wrap ((h:Int)+1)=((h+1:Nat):Int):=by
  rw[show(h:Int)+1=((h+1:Nat):Int) by omega,mG om]
 rw[e1];refine bO (λh2=>?_) (λh2=>?_)
 .exact⟨_,_,Mu (h:=h+1) (X:=[]) (λ_=>rfl),_,_,_,rfl,.iq _ _ _ h6 h2⟩
 have h2:er=0:=by simpa using h2
 subst h2;cases aA with
 |true=>
  cases aD with
  |true=>exact⟨_,_,Mu (h:=h+1) (X:=[]) (λ_=>rfl),_,_,_,rfl,.out _ _ _ h6 rfl rfl rfl⟩
  |false=>
   refine⟨⟨rfl,trivial⟩,?_⟩;refine⟨?_,?_⟩
   .show(0+(aa (parts.map bY.tD)).length)*16<=_;rw[bY.aJ,P2];omega
   refine⟨⟨rfl,trivial⟩,?_⟩;refine⟨?_,?_⟩
   .show((([]:List (List CC))++aa (parts.map bY.tD)).length+(aa (t.map bY.tD)).length)*16<=_;rw[acs,bY.aJ,bY.aJ,P2,P2];show(0+parts.length+t.length)*16<=_;omega
   refine⟨trivial,?_⟩;refine⟨trivial,?_⟩;exact⟨_,_,View.o 4 [0] [3] (.eq rfl .nil) (.pt rfl rfl (abC (t:=t) (parts:=parts) rfl) (.nil _)),_,_,_,rfl,.ok h6 rfl aG⟩
 |false=>
  refine⟨⟨rfl,trivial⟩,?_⟩;refine⟨?_,?_⟩
  .show(0+(aa (parts.map bY.tD)).length)*16<=_;rw[bY.aJ,P2];omega
  refine⟨⟨rfl,trivial⟩,?_⟩;refine⟨?_,?_⟩
  .show((([]:List (List CC))++aa (parts.map bY.tD)).length+(aa (t.map bY.tD)).length)*16<=_;rw[acs,bY.aJ,bY.aJ,P2,P2];show(0+parts.length+t.length)*16<=_;omega
  refine⟨trivial,?_⟩;refine⟨trivial,?_⟩;exact⟨_,_,View.o 4 [0] [3] (.eq rfl .nil) (.pt rfl rfl (abC (t:=t) (parts:=parts) rfl) (.nil _)),_,_,_,rfl,.ok h6 rfl aG⟩
theorem Kg(l:List Ob)(aB:Nat)(aD:Bool)(h a:Nat)(hh:h<=6)(t:List bY.eh)(ht:t.length<=1000)(s:bY.eh){m:Mem}(id:Nat)(hb:dp m id=some (j0 l aB aD h a t)){K:CV->Mem->Prop}(hK:∀r h' a' t',Sn (bY.df s) aD h a t r h' a' t'->K r (aZ m id (j0 l aB aD h' a' t'))):aq prog 143 [.rv (.one (.ptr id 0)),bY.vT s] m K:=
 Qc (args:=[bY.vT s]) (λ_=>rfl) (Q:=Sn (bY.df s) aD h a t) (λr h a t hq Y=>hq.data Y)
  (bP (aR func143 l143 (Mv l aB aD h a hh t ht s)) λr m1⟨r',m',hv,hq⟩=>⟨r',m',hv,hq⟩) id hb hK
def c117:LF:=Cq prog f117 [] [[eL 12 0 .nil],[(eL 9 0 (.cons 9 (some []) (.cons 10 none .nil)))]]
theorem l117:bA prog f117=some c117:=by kernel_rfl
def Qd(l:List Ob)(aB:Nat)(aD follow:Bool):Nat->Nat->List bY.eh->Nat->R4
 |0=>λ_ _ _=>R4.no 13
 |n+1=>NW l aD (xH l aB aD follow n)
theorem XS(l:List Ob)(aB:Nat)(aD follow:Bool)(n:Nat):xH l aB aD follow n=BD l aB aD follow (Qd l aB aD follow n):=by
 cases n<;>rfl
def ZE(r:R4):List Dt:=[.val (.int .i64 r.obj),.val (.int .i64 r.dir),.val (.string (bY.cZ r.name))]
def stV(r:R4)(ok:Bool):CV:= .bI [.agg ((ZE r).map .ai),.one (.ai (.val (.bool ok))),.one (.ai (.val (.int .i64 r.iq)))]
inductive V4(l:List Ob)(aB:Nat)(aD follow:Bool)(h a:Nat)(s:bY.eh)(t:List bY.eh):CV->Nat->Nat->List bY.eh->Prop
 |done (r:R4) (ok:Bool) (h' a':Nat) (t':List bY.eh) (hd:ok=true\/r.iq≠0) (he:xH l aB aD follow (6-h) (s::t) a=r):V4 l aB aD follow h a s t (stV r ok) h' a' t'
 |go (h' a':Nat) (t':List bY.eh) (he:xH l aB aD follow (6-h) (s::t) a=xH l aB aD follow (6-h') t' a') (ha:a'<l.length) (hm:h'=h/\t'=t\/h'=h+1/\h<6/\t'.length<=61+t.length):V4 l aB aD follow h a s t (stV (R4.no 0) false) h' a' t'
theorem V4.data{l:List Ob}{aB:Nat}{aD follow:Bool}{h a:Nat}{s:bY.eh}{t:List bY.eh}{r:CV}{h' a':Nat}{t':List bY.eh}(x:V4 l aB aD follow h a s t r h' a' t')(Y:Nat->Nat):r.aO Y=r:=by cases x<;>rfl
theorem Mw(t:List bY.eh):((t.map bY.tD).length:Int)=t.length:=by rw[P2]
theorem Mx(l:List Ob)(ok:ph l)(aB:Nat)(aD follow:Bool)(h a:Nat)(hh:h<=6)(ha:a<l.length)(s:bY.eh)(t:List bY.eh)(ht:t.length<=1000):
  body prog c117 [.rv (.one (.ptr 0 0)),ar follow] [j0 l aB aD h a (s::t)] (TV1 λr m=>∃h' a' t',m=[j0 l aB aD h' a' t']/\V4 l aB aD follow h a s t r h' a' t'):=by
 have hg:=fw ha;have hw:=XS l aB aD follow (6-h);have hS:∀r,BD l aB aD follow (Qd l aB aD follow (6-h)) (s::t) a=r->xH l aB aD follow (6-h) (s::t) a=r:=λr e=>by rw[hw];exact e
 refine bS (by rw[aaJ,ack,ack,P2,aaY];exact⟨Nat.succ_le_succ (aad _),aah _⟩) ?_
 rw[show List.drop 1 (List.take (List.map bY.tD (s::t)).length (List.map bY.tD (s::t)))=t.map bY.tD by rw[abo];rfl]
 refine af hg ?_;refine bO (λh1=>?_) (λh1=>?_)
 .exact⟨_,_,Mu (λ_=>rfl),_,_,_,rfl,.done (R4.no 11) false _ _ _ (.inr (by simp[R4.no])) (hS _ (by rw[BD,if_pos (by rw[vE ha];exact h1)]))⟩
 have h1:l[a].ah=2:=by simpa using h1
 have mC:¬(lB l a).ah≠2:=by rw[vE ha,h1];simp
 refine bY.mP (b:=[46,46]) (λh2=>?_) (λh2=>?_)
 .subst h2;refine abA l ok aB aD h a ha t 0 rfl (λh3=>?_) (λh3=>?_)
  .exact⟨_,_,Mu (λ_=>rfl),_,_,_,rfl,.done (R4.no 14) false _ _ _ (.inr (by simp[R4.no])) (hS _ (by rw[BD,if_neg mC,if_pos rfl,if_pos h3]))⟩
  .exact⟨_,_,Mu (λ_=>rfl),_,_,_,rfl,.go h (ze l a) t (hS _ (by rw[BD,if_neg mC,if_pos rfl,if_neg h3,hw])) (ok.XL a) (.inl ⟨rfl,rfl⟩)⟩
 refine Qa l ok a ha h1 s ?_;refine⟨trivial,?_⟩;have hf:=ok.XM a s;have XI:ml l a s<0->ml l a s= -1:=λh=>by
  rcases iw (jv (lB l a)) (bY.cZ s)with⟨e,he,_,h3⟩|⟨h3,_⟩
  .have:=(ok.dh a).2.1 e he;rw[ml,h3]at h;omega
  .exact h3
 have hW:∀r,(if ml l a s<0 then(if t≠[]then R4.no 6 else⟨-1,a,s,0⟩)else if(lB l (ml l a s).toNat).ah=3/\(follow=true\/t≠[])then Qd l aB aD follow (6-h) a t (ml l a s).toNat
  else if t=[]then⟨ml l a s,a,s,0⟩else BD l aB aD follow (Qd l aB aD follow (6-h)) t (ml l a s).toNat)=r->xH l aB aD follow (6-h) (s::t) a=r:=λr e=>hS r (by rw[BD,if_neg mC,if_neg h2];exact e)
 refine an (λh3=>?_) (λh3=>?_)
 .refine bc (λh4=>?_) (λh4=>?_)
  .rw[Mw]at h4;have h4:t=[]:=aaW om;exact⟨_,_,Mu (λ_=>rfl),_,_,_,rfl,.done ⟨-1,a,s,0⟩ true _ _ _ (.inl rfl) (hW _ (by rw[if_pos h3,if_neg (by simp[h4])]))⟩
  .rw[Mw]at h4;have h4:t≠[]:=λe=>h4 (by rw[e];rfl)
   refine bS (decide_eq_true h3) ?_;exact⟨_,_,Mu (λ_=>rfl),_,_,_,rfl,.done (R4.no 6) false _ _ _ (.inr (by simp[R4.no])) (hW _ (by rw[if_pos h3,if_pos h4]))⟩
 obtain⟨k,hfk,hk⟩:=hf h3;rw[if_neg h3]at hW;refine yx (decide_eq_false h3) ?_;rw[hfk,aam,vE hk]at hW;have XT:=fw hk;have htg:l[k].target=bY.cZ (Ke l k):=by obtain⟨tg,e⟩:=bY.C1 l[k].target;rw[Ke,vE hk,e];rfl
 rw[htg]at XT;rw[hfk];have yO:¬(l[k].ah=3/\(follow=true\/t≠[]))->∀r,(if t=[]then⟨(k:Int),a,s,0⟩else BD l aB aD follow (Qd l aB aD follow (6-h)) t k)=r->xH l aB aD follow (6-h) (s::t) a=r:=λhn r e=>hW r (by rw[if_neg hn];exact e)
 refine af XT ?_;refine bc (λh6=>?_) (λh6=>?_)
 .have h6:l[k].ah=3:=h6;have abD:(follow=true\/t≠[])->∀r h' a' t',Sn (bY.df (Ke l k)) aD h a t r h' a' t'->∃e,r=am .i64 e/\V4 l aB aD follow h a s t (stV (R4.no e) false) h' a' t':=by
   intro uL;rw[if_pos ⟨h6,uL⟩]at hW;intro r h' a' t' hq;cases hq with
   |loop _ _ _ e6=>exact⟨13,rfl,.done (R4.no 13) false _ _ _ (.inr (by simp[R4.no])) (hW _ (by rw[e6];rfl))⟩
   |iq _ _ _ e6 he=>exact⟨_,rfl,.done (R4.no _) false _ _ _ (.inr he) (hW _ (by rw[show 6-h=(5-h)+1 by omega];show NW _ _ _ _ _ _=_;rw[NW,if_pos he]))⟩
   |out _ _ _ e6 he hr hf'=>exact⟨14,rfl,.done (R4.no 14) false _ _ _ (.inr (by simp[R4.no])) (hW _ (by rw[show 6-h=(5-h)+1 by omega];show NW _ _ _ _ _ _=_;rw[NW,if_neg (by simp[he]),if_pos ⟨hr,hf'⟩]))⟩
   |ok e6 he hr=>exact⟨0,rfl,.go _ _ _ (hW _ (by rw[show 6-h=(5-h)+1 by omega];show NW _ _ _ _ _ _=_;rw[NW,if_neg (by simp[he]),if_neg hr,show 6-(h+1)=5-h by omega])) (by split;exact ok.pos;exact ha) (.inr ⟨rfl,om,by rw[acs];have:=sN (Ke l k);omega⟩)⟩
  refine aC (λh5=>?_) (λh5=>?_)
  .have h5:t≠[]:=λe=>by subst e;cases h5
   refine af XT ?_;refine Kg l aB aD h a hh t ht (Ke l k) 0 rfl λr h' a' t' hq=>?_
   obtain⟨e,rfl,Sm⟩:=abD (.inr h5) _ _ _ _ hq;exact⟨_,_,Mu (λ_=>rfl),_,_,_,rfl,Sm⟩
  .have h5:t=[]:=by
    cases t with
    |nil=>rfl
    |cons x r=>cases h5
   cases follow with
   |true=>
    refine af XT ?_;refine Kg l aB aD h a hh t ht (Ke l k) 0 rfl λr h' a' t' hq=>?_
    obtain⟨e,rfl,Sm⟩:=abD (.inl rfl) _ _ _ _ hq;exact⟨_,_,Mu (λ_=>rfl),_,_,_,rfl,Sm⟩
   |false=>
    have gU:=yO (by rw[h5];simp)
    rw[if_pos h5]at gU;subst h5;exact⟨_,_,Mu (λ_=>rfl),_,_,_,rfl,.done ⟨(k:Nat),a,s,0⟩ true _ _ _ (.inl rfl) (gU _ rfl)⟩
 .have h6:l[k].ah≠3:=h6;have gU:=yO (λh=>h6 h.1)
  refine bc (λh7=>?_) (λh7=>?_)
  .rw[Mw]at h7;have h7:t=[]:=aaW om;rw[if_pos h7]at gU;exact⟨_,_,Mu (λ_=>rfl),_,_,_,rfl,.done ⟨(k:Nat),a,s,0⟩ true _ _ _ (.inl rfl) (gU _ rfl)⟩
  .rw[Mw]at h7;have h7:t≠[]:=λe=>h7 (by rw[e];rfl)
   rw[if_neg h7,<-hw]at gU;exact⟨_,_,Mu (λ_=>rfl),_,_,_,rfl,.go h k t (gU _ rfl) hk (.inl ⟨rfl,rfl⟩)⟩
theorem TG(l:List Ob)(ok:ph l)(aB:Nat)(aD follow:Bool)(h a:Nat)(hh:h<=6)(ha:a<l.length)(s:bY.eh)(t:List bY.eh)(ht:t.length<=1000){m:Mem}(id:Nat)(hb:dp m id=some (j0 l aB aD h a (s::t))){K:CV->Mem->Prop}(hK:∀r h' a' t',V4 l aB aD follow h a s t r h' a' t'->K r (aZ m id (j0 l aB aD h' a' t'))):aq prog 117 [.rv (.one (.ptr id 0)),ar follow] m K:=
 Qc (args:=[ar follow]) (λ_=>rfl) (Q:=V4 l aB aD follow h a s t) (λr h a t hq Y=>hq.data Y)
  (bP (aR func117 l117 (Mx l ok aB aD follow h a hh ha s t ht)) λr m1⟨r',m',hv,hq⟩=>⟨r',m',hv,hq⟩) id hb hK
def c76:LF:=Cq prog f76 [[7]] [[(eL 16 0 (.cons 16 (some []) (.cons 17 none .nil)))]]
theorem l76:bA prog f76=some c76.er:=by kernel_rfl
def ZF(r:R4):CV:= .bI [.agg ((ZE r).map .ai),.one (.ai (.val (.int .i64 r.iq)))]
theorem abE(r:R4):(ZF r).Er=true:=rfl
structure StP where
 h:Nat
 a:Nat
 t:List bY.eh
theorem TH(l:List Ob)(aB:Nat)(aD follow:Bool)(n a:Nat):xH l aB aD follow n [] a=⟨a,ze l a,[],0⟩:=by
 cases n<;>rfl
def G9:LC:=mK (bs (bs (bs (bs (bs (bs (bs c76.code)))))))
def z3R:Bk:= .var ((ZE (R4.no 0)).map .ai)
theorem E7(l:List Ob)(ok:ph l)(b:Nat)(aD follow:Bool)(a0:Nat)(TI:a0<l.length)(parts:List bY.eh)(hp:parts.length<=61):
  aw prog 0 G9 (oi prog c76.mr (λr m=>r=ZF (xH l b aD follow 6 parts a0))) ⟨jD 102 [(0,gE l),(4,ar follow),(10,.rv (.one (.ptr 0 0))),(15,.rv (.one (.ptr 1 0)))],[z3R,j0 l b aD 0 a0 parts]⟩:=by
 refine ax (λa:StP=>a.h<=6/\a.a<l.length/\a.t.length<=61*(a.h+1)/\xH l b aD follow (6-a.h) a.t a.a=xH l b aD follow 6 parts a0) [0,4,10,15] (λ_=>[]) (λa=>[z3R,j0 l b aD a.h a.a a.t]) (λa=>(6-a.h)*1000+a.t.length) ⟨0,a0,parts⟩ ⟨aad _,TI,by simpa using hp,rfl⟩ ?_ (λa ha=>?_)
 .refine View.o1 2 [0,1] [] (.pt rfl rfl (.eq rfl (by intro x;cases x)) (.pt rfl rfl (.eq rfl (zl _ _ _ _ _ _)) (.nil _)))
 obtain⟨h,a,t⟩:=a;obtain⟨hh,ha,ht,he⟩:=ha;have hh:h<=6:=hh;have ha:a<l.length:=ha;have ht:t.length<=61*(h+1):=ht;have he:xH l b aD follow (6-h) t a=xH l b aD follow 6 parts a0:=he;refine an (λh1=>?_) (λh1=>?_)
 .have h1:((t.map bY.tD).length:Int)>0:=h1;rw[Mw]at h1;obtain⟨s,t',rfl⟩:∃s t',t=s::t':=by
   cases t with
   |nil=>simp at h1
   |cons s t'=>exact⟨s,t',rfl⟩
  have ht:t'.length+1<=61*(h+1):=by simpa using ht
  refine TG l ok b aD follow h a hh ha s t' om 1 rfl λr h' a' t'' hq=>?_
  cases hq with
  |done r okk h' a' t'' hd hr=>
   rw[<-he,hr];cases okk with
   |true=>exact rfl
   |false=>
    have hd:r.iq≠0:=by simpa using hd
    refine bO (λh2=>?_) (λh2=>?_)
    .exact rfl
    .exact absurd h2 hd
  |go h' a' t'' hr ha' hm=>
   refine⟨⟨h',a',t''⟩,⟨?_,ha',?_,hr.symm.trans he⟩,?_,View.o 3 [0,1] [] ?_ (.pt rfl rfl (.eq rfl (by intro x;cases x)) (.pt rfl rfl (.eq rfl (zl _ _ _ _ _ _)) (.nil _)))⟩
   .show h'<=6;omega
   .show t''.length<=61*(h'+1);rcases hm with⟨rfl,rfl⟩|⟨rfl,h6,hl⟩
    .omega
    .omega
   .show(6-h')*1000+t''.length<(6-h)*1000+(s::t').length;rw[aaY];rcases hm with⟨rfl,rfl⟩|⟨rfl,h6,hl⟩
    .omega
    .omega
   .repeat(first|exact .nil|refine .aL ?_|refine .eq rfl ?_)
 .have h1:¬((t.map bY.tD).length:Int)>0:=h1;rw[Mw]at h1;have h1:t=[]:=aaW om;subst h1;rw[TH]at he;refine af (fw ha) ?_;refine⟨trivial,?_⟩;rw[<-he,ok.P4 ha];exact rfl
theorem My(l:List Ob)(ok:ph l)(aB:Int)(s:bY.eh)(aD follow:Bool):body prog c76 [gE l,am .i64 aB,bY.vT s,ar aD,ar follow] [] (λr m=>r=ZF (oI l aB s aD follow)):=by
 have k6:gx l aB 0=false->oI l aB s aD follow=R4.no 6:=λh=>by rw[oI,h];rfl
 refine an (λh1=>?_) (λh1=>?_)
 .rw[k6 (by rw[gx,decide_eq_false om];rfl)];rfl
 obtain⟨b,rfl⟩:∃b:Nat,aB=b:=⟨aB.toNat,om⟩;refine an (λh2=>?_) (λh2=>?_)
 .have h2:(b:Int)>=((l.map Ob.enc).length:Int):=h2;rw[P2]at h2;rw[k6 (by rw[gx,decide_eq_false (p:=(b:Int)<l.length) om];simp)];rfl
 have h2:¬(b:Int)>=((l.map Ob.enc).length:Int):=h2;rw[P2]at h2;have hb:b<l.length:=om;have hg:=fw hb;refine af hg ?_;refine bc (λh3=>?_) (λh3=>?_)
 .have h3:l[b].ah=0:=h3;rw[k6 (by unfold gx;rw[aam,xm hb];simp[h3])];rfl
 have h3:l[b].ah≠0:=h3;have hI:gx l b 0=true:=by unfold gx;rw[aam,xm hb];simp[h3,hb]
 have hL:∀r,(if l[b].ah≠2 then R4.no 11 else if(bY.df s).2.2≠0 then R4.no (bY.df s).2.2 else if(bY.df s).2.1=true/\aD=true then R4.no 14
  else xH l b aD follow 6 (bY.df s).1 (if(bY.df s).2.1=true then 0 else b))=r->oI l b s aD follow=r:=λr e=>by
  rw[oI,if_pos hI,aam,vE hb];exact e
 refine af hg ?_;refine bO (λh4=>?_) (λh4=>?_)
 .rw[hL _ (if_pos h4)];rfl
 have h4:l[b].ah=2:=by simpa using h4
 rw[if_neg (by rw[h4];simp)]at hL
 refine bY.zd s ?_;have hp:=sN s;generalize bY.df s=p at hp hL|-;obtain⟨parts,aA,er⟩:=p;have hp:parts.length<=61:=hp;refine bO (λh5=>?_) (λh5=>?_)
 .rw[hL _ (if_pos h5)];rfl
 have h5:er=0:=by simpa using h5
 rw[if_neg (by simp[h5])]at hL
 have view:∀a0:Nat,∀e,i4 (sg [0,1] 2) [z3R,j0 l b aD 0 a0 parts] (λk=>bh [] k=true) e (jD 102 [(0,gE l),(4,ar follow),(10,.rv (.one (.ptr 0 0))),(15,.rv (.one (.ptr 1 0)))])->
   View 0 ⟨e,[z3R,j0 l b aD 0 a0 parts]⟩ ⟨jD 102 [(0,gE l),(4,ar follow),(10,.rv (.one (.ptr 0 0))),(15,.rv (.one (.ptr 1 0)))],[z3R,j0 l b aD 0 a0 parts]⟩:=λa0 e he=>
  View.o 2 [0,1] [] he (.pt rfl rfl (.eq rfl (by intro x;cases x)) (.pt rfl rfl (.eq rfl (zl _ _ _ _ _ _)) (.nil _)))
 cases aA with
 |true=>
  cases aD with
  |true=>
   rw[hL _ (if_pos ⟨rfl,rfl⟩)];rfl
  |false=>
   rw[hL _ (by rw[if_neg aG,if_pos rfl])]
   refine⟨_,view 0 _ ?_,E7 l ok b false follow 0 ok.pos parts hp⟩;repeat(first|exact .nil|refine .aL ?_|refine .eq rfl ?_)
 |false=>
  rw[hL _ (by rw[if_neg aG,if_neg aG])]
  refine⟨_,view b _ ?_,E7 l ok b aD follow b hb parts hp⟩;repeat(first|exact .nil|refine .aL ?_|refine .eq rfl ?_)
theorem TJ(l:List Ob)(ok:ph l)(aB:Int)(s:bY.eh)(aD follow:Bool){m:Mem}{K:CV->Mem->Prop}(h:K (ZF (oI l aB s aD follow)) m):aq prog 76 [gE l,am .i64 aB,bY.vT s,ar aD,ar follow] m K:=by
 refine aT (K0:=λr _=>r=ZF (oI l aB s aD follow)) (cN func76 l76 (My l ok aB s aD follow)) (by simp[gE,am,ar,bY.vT,ei,CV.cY,CC.cY]) λr m1 hr=>?_
 subst hr;exact⟨_,cM.self (abE _),h⟩
theorem XU{es:List NE}(hs:Hf es){s:ByteArray}(hf:CY es s=false)(n:Int):gw (s,n) es=es.take (sL es s)++(s,n)::es.drop (sL es s):=by
 obtain⟨h0,h1,h2⟩:=qT hs s es.length 0 es.length om om om (λk e hk=>absurd hk (abq k)) (λk e hk he=>by have:=(Mp.1 he).1;omega)
 have hI:Mm es s es.length 0 es.length=sL es s:=rfl;rw[hI]at h0 h1 h2;have e1:∀e,e∈es.take (sL es s)->Gg e.1 s=false:=λe he=>by obtain⟨k,hk⟩:=aag he;have ef:=(Mp.1 hk).1;rw[abg]at ef;rw[abI,if_pos om]at hk;have h3:=h1 k e om hk;unfold Gg;unfold CI at h3;rw[h3];rfl
 have:=tW (x:=(s,n)) (a:=es.take (sL es s)) (b:=es.drop (sL es s)) e1;rw[aec]at this;rw[this];congr 1;cases hd:es.drop (sL es s)with
 |nil=>rfl
 |cons e r=>
  have oo:es[sL es s]? =some e:=by
   have:(es.drop (sL es s))[0]? =some e:=by rw[hd];rfl
   rw[adi]at this;simpa using this
  refine JO ?_;have h3:=h2 (sL es s) e (aah _) oo;unfold CY at hf;rw[oo]at hf;have gj:¬mO e.1 s=0:=by simpa using hf
  have gj:e.1.toList≠s.toList:=λh=>gj (zf.2 h)
  show Gg e.1 s=true;unfold Gg;unfold CI at h3;have h3:Op.bytesLess e.1.toList s.toList=false:=by simpa using h3
  rw[h3];simp[gj]
theorem BE{es:List NE}(hs:Hf es)(s:ByteArray):(if CY es s=true then(match es[sL es s]? with|some e=>e.2|none=>0)else -1)=fq es s:=ny hs (Kf hs s) (iw es s)
def c74:LF:=Cq prog f74 [] []
def c122:LF:=Cq prog f122 [[7]] []
def c150:LF:=Cq prog f150 [] [[(eL 8 0 (.cons 8 (some []) .nil))],[(eL 8 0 (.cons 8 (some []) .nil))]]
theorem l74:bA prog f74=some c74:=by kernel_rfl
theorem l150:bA prog f150=some c150:=by kernel_rfl
theorem l122:bA prog f122=some c122.er:=by kernel_rfl
def nmW(e:ByteArray×Int):List Dt:=[.val (.string e.1)]
theorem HW(o:Obj)(es:List (ByteArray×Int))(he:o.ag=es.map dy)(hl:es.length<=4194304):body prog c74 [o.cv] [] (λr m=>cM m r (tP 1 (es.map nmW))):=by
 obtain⟨ah,data,ag,target,aI,aj,aQ,ak,up⟩:=o;have he:ag=es.map dy:=he;subst he;refine ax (λk=>k<=es.length) [7,8] (λk=>[(9,am .i64 (k:Nat)),(3,.rv (.one (.row 0 1 0 none)))]) (λk=>[.row 1 (aa ((es.take k).map nmW))]) (λk=>es.length-k) 0 (aad _) ?_ (λk hk=>?_)
 .refine View.trans (View.bv 3 1 1 rfl rfl rfl) (View.o1 2 [1] [] ?_)
  .exact .au
 have hk:k<=es.length:=hk;refine an (λh=>?_) (λh=>?_)
 .have ay:k<es.length:=by have h:(k:Int)<((es.map dy).length:Int):=h;rw[P2]at h;omega
  refine af (qS ay) ?_;refine⟨by simp[bt,aa];omega,?_⟩
  refine⟨k+1,ay,(show es.length-(k+1)<es.length-k by omega),View.o2 4 [3] [] ?_⟩
  .refine .pt rfl rfl (.bg ?_) (.nil _);rw[nt (xm ay),abT,bU];rfl
 .have oc:k=es.length:=by have h:¬(k:Int)<((es.map dy).length:Int):=h;rw[P2]at h;omega
  subst oc;rw[abo];exact .rv (.one (eF.db rfl 0 none))
theorem Qe(o:Obj)(es:List (ByteArray×Int))(he:o.ag=es.map dy)(hl:es.length<=4194304){m:Mem}{K:CV->Mem->Prop}(h:K (tP 1 (es.map nmW)) m):aq prog 74 [o.cv] m K:=
 aT (aR func74 l74 (HW o es he hl)) (by simp[Obj.cv,Obj.enc,CV.cY,CC.cY,RV.cY]) λr m1 hf=>⟨_,hf,h⟩
theorem Qf(S:List (List Dt))(e:List Dt)(hl:S.length<=4194304):body prog c150 [.rv (.one (.row 0 2 0 none)),am .i64 (S.length:Nat),.rv (.one (.row 1 2 0 none))] [.row 2 (aa S),.row 2 (aa [e])]
  (λr m=>r= .rv (.one (.row 2 2 0 none))/\m=[.aE,.aE,.row 2 (aa (S++ [e]))]):=by
 have hlen:lenOf (aa S).length 0 none=S.length:=eC S;refine bS (by show(Nat.ble S.length (lenOf (aa S).length 0 none)&&Nat.ble (lenOf (aa S).length 0 none) ((aa S).length-0))=true;rw[hlen,eC];simp[ack]) ?_
 refine bc (λh=>?_) (λh=>?_)
 .refine⟨by simp[bt,aa];omega,rfl,?_⟩
  show [Bk.aE,.aE,.row 2 (bt (aa S) 0 none++bt (aa [e]) 0 none)]=_;simp[bt,aa]
 .exfalso;apply h;show((S.length:Nat):Int)=((lenOf (aa S).length 0 none:Nat):Int);rw[hlen]
theorem XV(S:List (List Dt))(e:List Dt)(hl:S.length<=4194304){m:Mem}{K:CV->Mem->Prop}(a b:Nat)(CO:iv [a,b]=true)(ay:eP m.length [a,b]=true)(ha:dp m a=some (.row 2 (aa S)))(hb:dp m b=some (.row 2 (aa [e])))(h:K (.rv (.one (.row m.length 2 0 none))) (dA m [a,b] [.aE,.aE,.row 2 (aa (S++ [e]))])):aq prog 150 [.rv (.one (.row a 2 0 none)),am .i64 (S.length:Nat),.rv (.one (.row b 2 0 none))] m K:=by
 refine bi [a,b] m.length rfl rfl CO ay (args0:=[.rv (.one (.row 0 2 0 none)),am .i64 (S.length:Nat),.rv (.one (.row 1 2 0 none))]) rfl (m0:=[.row 2 (aa S),.row 2 (aa [e])]) (λi b' hi=>?_) (aR func150 l150 (Qf S e hl)) (λr1 m1 hr=>?_)
 .match i,hi with
  |0,hi=>cases hi;exact .inr ⟨λh=>h,_,by rw[aX]at ha;exact ha,.bg rfl⟩
  |1,hi=>cases hi;exact .inr ⟨λh=>h,_,by rw[aX]at hb;exact hb,.bg rfl⟩
  |n+2,hi=>simp at hi
 .obtain⟨rfl,rfl⟩:=hr;refine⟨aG,?_⟩;show K (.rv (.one (.row (m.length+(2-2)) 2 0 none))) (dA m [a,b] [.aE,.aE,.row 2 ((aa (S++ [e])).map (λcs=>cs.map (CC.aO (sg [a,b] m.length))))])
  rw[jm];exact h
def af9:LC:=unW (oJ (oJ (oJ (oJ (oJ (oJ (oJ c122.code)))))))
end Go.Proofs.YtllkfpggoigbaaaGreatDoor
