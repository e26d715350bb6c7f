/- Part 25 of 41: what the law stands on. -/
import Derived.Test.YthagjdhjmamakaaGreatDoorT16
import Derived.Test.YthagjdhjmamakaaGreatDoorT17
import Derived.Test.YthagjdhjmamakaaGreatDoorT18
import Derived.Test.YthagjdhjmamakaaGreatDoorT24
import Derived.RangeFuncNested
import Derived.RangeFuncCalls
import Derived.Shelf.Abstract
import Derived.WalkKit
import Derived.OwnWalkIn
import Derived.TacticsInMore
import Derived.LoopNIn
import Derived.LoopIn
set_option linter.unusedVariables false
set_option linter.unusedSimpArgs false
set_option linter.unnecessarySimpa false
set_option maxRecDepth 100000
set_option maxHeartbeats 64000000
namespace Go.Proofs.YthagjdhjmamakaaGreatDoor
open Go.AM Go.ChangeShapes Go.WideShapes Go.ChangeAt Go.RowKit
namespace bD
attribute [local go_sem] Oper.semAt_some
def yQ(w:World)(b o:Nat):Nat:=match w.cell? ⟨b,o,none⟩with|some (.string s)=>s.size|_=>0
theorem uX{w:World}{b o:Nat}{s:ByteArray}(h:w.cell? ⟨b,o,none⟩=some (.string s)):yQ w b o=s.size:=by simp[yQ,h]
@[simp] theorem oe(r:List UInt8):(cu r).data.toList=r:=rfl
@[simp] theorem lP(r:List UInt8):(cu r).size=r.length:=by simp[cu,ByteArray.size]
theorem qa(r:List UInt8)(a b:Nat)(hb:b<=r.length):(cu r).extract a b=cu ((r.take b).drop a):=by apply ByteArray.ext;simp[cu,ByteArray.data_extract,List.drop_take]
def Xy(F:Fence)(n:Nat)(P:Program)(l:Nat)(args:Array Value)(W:World)(R:Ending->World->Prop):Prop:=
 ∃fn tmps assign body,(Instr.yield l args).run P W= .ok (.round l fn tmps assign body) W/\RoundIn F n P l fn tmps assign body W R
theorem DL(F:Fence)(n:Nat)(h49:F.fn 140)(h51:F.fn 142)(hro:F.round=none)(hn:3<=n)(s:ByteArray)(c:UInt8)(l b1 o1 b2 o2 b3 o3:Nat)(W:World)(J:Nat->World->Prop)(Jx:World->Prop)(n12:b1≠b2)(n13:b1≠b3)(n23:b2≠b3)(hix:∀(s:ByteArray)(w:World),CallsIn F (n-1) Tryz.prog 142 #[.string s,.string ⟨#[c]⟩] w fun e w'=>e= .returned (.int .i64 (Lib.indexByte s.data.toList c))/\w'=w)(c1:W.cell? ⟨b1,o1,none⟩=some (.string ⟨#[c]⟩))(c2:W.cell? ⟨b2,o2,none⟩=some (.string s))(f2:W.frozen? ⟨b2,o2,none⟩=false)(c3:W.cell? ⟨b3,o3,none⟩=some (.int .i64 0))(hJ:∀k W v,J k W->J k (W.setCell ⟨b2,o2,none⟩ v))(hY:∀k y W,(gl c s)[k]? =some y->J k W->Xy F (n-1) Tryz.prog l #[.string y] W fun e W'=>
   (e= .returned (.bool true)/\J (k+1) W'/\W'.heap[b1]? =W.heap[b1]? /\W'.heap[b2]? =W.heap[b2]? /\W'.heap[b3]? =W.heap[b3]?)\/(e= .returned (.bool false)/\Jx W'))(h0:J 0 W)(hsz:(s.size:Int)<4611686018427387904):
  CallsIn F n Tryz.prog 140 #[.func (.yield l) #[] #[],.pointer (some ⟨b1,o1,none⟩),.pointer (some ⟨b2,o2,none⟩),.pointer (some ⟨b3,o3,none⟩)] W fun e W'=>
   (∃v,e= .returned v)/\(J (gl c s).length W'\/Jx W'):=by
 have h1:1<=n:=om;refine callsIn_of_wp Tryz.func140 rfl h49 ?_ hro;simp only[Tryz.ntmps140,List.size_toArray,XR,aat,Nat.reduceAdd,Nat.reduceSub,Array.replicate_succ,Array.replicate_zero,List.push_toArray,List.append_toArray,acs,aby]
 gi_wp2
 gi_loopw [] (fun wr=>∃(k:Nat)(r:List UInt8),wr.cell? ⟨b2,o2,none⟩=some (.string (cu r))/\wr.frozen? ⟨b2,o2,none⟩=false/\wr.cell? ⟨b1,o1,none⟩=some (.string ⟨#[c]⟩)/\
   wr.cell? ⟨b3,o3,none⟩=some (.int .i64 0)/\(gl c s).drop k=(fS c r).map cu/\J k wr/\r.length<=s.size) (fun wr=>yQ wr b2 o2)
 case atStart=>
  exact⟨0,s.data.toList,by rw[c2];rfl,f2,c1,c3,rfl,h0,by show s.data.toList.length<=s.data.size;rw[aaW];exact QN _⟩
 case round=>
  obtain⟨k,r,d2,g2,d1,d3,hcut,hj,hlen⟩:=hrel;rcases Int.lt_or_le (Lib.indexByte r c) 0 with hneg|hpos
  .have hm1:Lib.indexByte r c= -1:=by have:=Lib.indexByte_ge r c;omega
   have hix:=(hix (cu r) wr).mono (R':=fun e w'=>e= .returned (.int .i64 (-1))/\w'=wr) fun e w'⟨h1,h2⟩=>⟨by rw[h1,oe,hm1],h2⟩
   have hk:(gl c s)[k]? =some (cu r):=by
    have:=congrArg (fun l=>l[0]?) hcut
    simp only[aaA,rG hm1]at this;simpa using this
   have hlen2:(gl c s).length=k+1:=by have h2:=congrArg List.length hcut;have h3:=(Hy.1 hk).1;rw[rG hm1,aaE]at h2;simp only[aay,abN,XR,aat]at h2;omega
   obtain⟨fn,tmps,assign,body,hy,hR⟩:=hY k _ wr hk hj;have hfin:∀W,J (k+1) W->J (gl c s).length W:=fun W h=>hlen2▸h
   clear hY hJ hcut hneg hm1 hk c1 c2 f2 c3 h0 hlen2
   gi_wp2_with (gi_at_call 142;refine hix.mono ?_;rintro e w' ⟨rfl,rfl⟩)
   refine hR.mono ?_;rintro e W' (⟨rfl,hJ',_⟩|⟨rfl,hx⟩)
   .gi_wp2
    go_end0
    exact⟨⟨_,rfl⟩,.inl (hfin _ hJ')⟩
   .gi_wp2
    go_end0
    exact⟨⟨_,rfl⟩,.inr hx⟩
  .obtain⟨i,hi⟩:=Int.eq_ofNat_of_zero_le hpos;obtain⟨hlt,hcut2⟩:=xD hi;have hk:(gl c s)[k]? =some (cu (r.take i)):=by
    have:=congrArg (fun l=>l[0]?) hcut
    simp only[aaA,hcut2]at this;simpa using this
   have hnext:(gl c s).drop (k+1)=(fS c (r.drop (i+1))).map cu:=by have:=congrArg List.tail hcut;rw[hcut2,List.tail_drop]at this;simpa using this
   obtain⟨fn,tmps,assign,body,hy,hR⟩:=hY k _ wr hk hj;obtain⟨z,hz⟩:∃z:Int,z=(i:Int):=⟨_,rfl⟩;have hix:=(hix (cu r) wr).mono (R':=fun e w'=>e= .returned (.int .i64 z)/\w'=wr) fun e w'⟨h1,h2⟩=>⟨by rw[h1,oe,hi,hz],h2⟩
   have Hnext:Hid ((gl c s).drop (k+1)=(fS c (r.drop (i+1))).map cu):=hnext;have HJ:Hid (∀k W v,J k W->J k (W.setCell ⟨b2,o2,none⟩ v)):=hJ;have Hz:Hid (z=(i:Int)):=hz;have z0:0<=z:=om;have z0':decide (z<0)=false:=decide_eq_false om;have z1:z<r.length:=om;have hw1:wrap64 z=z:=by unfold wrap64;omega
   have hw2:wrap64 (z+1)=z+1:=by unfold wrap64;omega
   have hs1:(0<=z/\z<=(r.length:Int))=True:=by simp;omega
   have hs2:(0<=z+1/\z+1<=(r.length:Int))=True:=by simp;omega
   have hs3:z<=(r.length:Int):=om;have hs4:0<=z+1:=om;have hs5:z+1<=(r.length:Int):=om;have he1:cu (r.take i)=(cu r).extract 0 z.toNat:=by rw[qa r _ _ om,hz];simp
   have he2:(cu r).extract (z+1).toNat r.length=cu (r.drop (i+1)):=by rw[qa r _ _ (QN _),aan,hz];rfl
   have Hend:Hid (i<r.length/\r.length<=s.size/\(cu r).extract (z+1).toNat r.length=cu (r.drop (i+1))):=⟨hlt,hlen,he2⟩;rw[he1]at hy;clear hJ hY hcut hcut2 hi hk c1 c2 f2 c3 h0 hpos hnext hz hsz he1 he2 hlt hlen
   gi_wp2_with (first
    |(gi_at_call 142;refine hix.mono ?_;rintro e w' ⟨rfl,rfl⟩)
    |(refine wpIn_cond_false (by show Value.bool (decide (z<0))=Value.bool false;rw[z0']) ?_))
   refine hR.mono ?_;rintro e W' (⟨rfl,hJ',e1,e2,e3⟩|⟨rfl,hx⟩)
   .have q1:W'.cell? ⟨b1,o1,none⟩=some (.string ⟨#[c]⟩):=(World.cell?_of_block (a:=⟨b1,o1,none⟩) e1).trans d1;have q2:W'.cell? ⟨b2,o2,none⟩=some (.string (cu r)):=(World.cell?_of_block (a:=⟨b2,o2,none⟩) e2).trans d2;have q3:W'.cell? ⟨b3,o3,none⟩=some (.int .i64 0):=(World.cell?_of_block (a:=⟨b3,o3,none⟩) e3).trans d3;have q4:W'.frozen? ⟨b2,o2,none⟩=false:=by rw[<-g2];simp only[World.frozen?,e2]
    gi_wp2
    obtain⟨hlt,hlen,he2⟩:=Hend.out;have hq:(W'.cell? ⟨b2,o2,none⟩).isSome=true:=by rw[q2];rfl
    have hn2:=World.cell?_setCell_same' W' ⟨b2,o2,none⟩ (.string ((cu r).extract (z+1).toNat r.length)) hq;rw[he2]at hn2⊢;refine⟨⟨k+1,r.drop (i+1),hn2,by rw[World.frozen?_setCell];exact q4,?_,?_,Hnext.out,HJ.out _ _ _ hJ',by simp;omega⟩,?_⟩
    .exact(World.cell?_setCell_other _ _ _ _ fun e=>n12 (congrArg Addr.block e).symm).trans q1
    .exact(World.cell?_setCell_other _ _ _ _ fun e=>n23 (congrArg Addr.block e)).trans q3
    .rw[uX hn2,uX d2,lP,lP,aaE];omega
   .gi_wp2
    refine bodyPost_ret (results_none rfl _ _ _) rfl ?_;exact⟨⟨_,rfl⟩,.inr hx⟩
theorem o0(W:World)(a:Addr)(v:Value){b:Nat}(h:b≠a.block):(W.setCell a v).heap[b]? =W.heap[b]? :=by simp only[World.setCell,aaJ];rw[if_neg (fun e=>h e.symm)]
theorem yR{n:Nat}{P:Program}{l:Nat}{f:FuncId}{tmps:Array Value}{assign body:Code}{w:World}{R:Ending->World->Prop}(h:RoundIn Fence.wide 0 P l f tmps assign body w R):
  RoundIn Fence.wide n P l f tmps assign body w R:=⟨h.1,fun c cs _=>h.2 c cs (room_wide _)⟩
theorem HA(s:ByteArray)(c:UInt8)(hsz:(s.size:Int)<4611686018427387904):R7 Tryz.prog 140 [.string ⟨#[c]⟩,.string s,.int .i64 0] (gl c s):=by
 refine⟨⟨Tryz.f140,Tryz.func140,rfl,by decide⟩,?_⟩
 intro l az W J Jx hlen hnd hcell hJ hJx hY h0
 match az,hlen with
 | [(b1,o1),(b2,o2),(b3,o3)],_=>
 obtain⟨c1,f1⟩:=hcell 0 _ _ rfl rfl;obtain⟨c2,f2⟩:=hcell 1 _ _ rfl rfl;obtain⟨c3,f3⟩:=hcell 2 _ _ rfl rfl;simp only[aay,abN,abh,aad,aaS,or_false,not_or,List.nodup_nil]at hnd;obtain⟨⟨n12,n13⟩,n23,_⟩:=hnd;show CallsIn Fence.wide 0 Tryz.prog 140 #[.func (.yield l) #[] #[],.pointer (some ⟨b1,o1,none⟩),.pointer (some ⟨b2,o2,none⟩),.pointer (some ⟨b3,o3,none⟩)] W _;refine callsIn_wide.2 ((callsIn_wide (n:=5)).1 ?_);refine DL Fence.wide 5 trivial trivial rfl om s c l b1 o1 b2 o2 b3 o3 W J Jx n12 n13 n23 (fun s w=>callsIn_wide.2 (Hw s c w)) c1 c2 f2 c3 ?_ ?_ h0 hsz
 .intro k W v hj;exact hJ k W _ hj aK (fun b _ hb=>o0 _ _ _ (hb (b2,o2) aK)) rfl rfl rfl
 .intro k y W hk hj;obtain⟨fn,tmps,assign,body,hy,hR⟩:=hY k y W hk hj;refine⟨fn,tmps,assign,body,hy,(yR hR).mono fun e W' h=>?_⟩
  rcases h with⟨he,h1,h2,h3⟩|⟨he,h1⟩
  .exact .inl ⟨he,h1,h3 (b1,o1) aK,h3 (b2,o2) aK,h3 (b3,o3) aK⟩
  .exact .inr ⟨he,h1⟩
end bD
def c99:LF:= ⟨52,[.tmp 2],(.seq (.ai [qu 2 (.aD (qb false))]) (.seq (.seq (.ai [qm 5 0,qu 6 (.len 0 5),qu 7 (.aE .lss 6 (qi 1)),qm 8 7,qg 9 (.aD 0) 8 false,qg 10 (.len 0 9) 8 false,qg 11 (.aE .gtr 10 (qi 12)) 8 false,qu 12 (.pick 8 (qb true) 11),qm 13 12,qg 14 (.aD 0) 13 false,qg 15 (.aE .eql 14 (.c (.rv (.one (.aa (.val (.string ⟨#[46]⟩))))))) 13 false,qu 16 (.pick 13 (qb true) 15),qm 17 16,qg 18 (.aD 0) 17 false,qg 19 (.aE .eql 18 (.c (.rv (.one (.aa (.val (.string ⟨#[46,46]⟩))))))) 17 false,qu 20 (.pick 17 (qb true) 19)]) (.cond 20 (.seq (.ai [qu 2 (.aD (qb false))]) .ret) .skip)) (.seq (.seq (.ai [qm 21 0,qu 22 (.len 0 21),qu 23 (.aD (qi 0))]) (.block 0 (.loop (.seq (.ai [qu 24 (.aE .lss 23 22)]) (.seq (.cond 24 .skip (.exit 0)) (.seq (.block 1 (.seq (.ai [qm 25 23,qm 3 25]) (.seq (.ai [qm 26 0,qm 27 3,qu 28 (.zR 26 27),qm 4 28]) (.seq (.ai [qm 29 4,qu 30 (.aE .lss 29 (.c (.rv (.one (.aa (.val (.int .u8 (97)))))))),qm 31 30,qg 32 (.aD 4) 31 false,qg 33 (.aE .gtr 32 (.c (.rv (.one (.aa (.val (.int .u8 (122)))))))) 31 false,qu 34 (.pick 31 (qb true) 33),qm 35 34,qg 36 (.aD 4) 35 true,qg 37 (.aE .lss 36 (.c (.rv (.one (.aa (.val (.int .u8 (48)))))))) 35 true,qg 38 (.aD 37) 35 true,qg 39 (.aD 4) 38 false,qg 40 (.aE .gtr 39 (.c (.rv (.one (.aa (.val (.int .u8 (57)))))))) 38 false,qg 41 (.pick 38 (qb true) 40) 35 true,qu 42 (.pick 35 41 (qb false)),qm 43 42,qg 44 (.aD 4) 43 true,qg 45 (.aE .neq 44 (.c (.rv (.one (.aa (.val (.int .u8 (46)))))))) 43 true,qu 46 (.pick 43 45 (qb false)),qm 47 46,qg 48 (.aD 4) 47 true,qg 49 (.aE .neq 48 (.c (.rv (.one (.aa (.val (.int .u8 (95)))))))) 47 true,qu 50 (.pick 47 49 (qb false))]) (.cond 50 (.seq (.ai [qu 2 (.aD (qb false))]) .ret) .skip))))) (.ai [qu 51 (.aE .add 23 (qi 1)),qm 23 51]))))))) (.seq (.ai [qu 2 (.aD (qb true))]) .ret))))⟩
namespace bD
abbrev di:=List UInt8
def vT(t:di):CV:=dk (cu t)
theorem F0(s:ByteArray):∃t:di,s=cu t:=⟨s.data.toList,rfl⟩
theorem s8(t:di):(cu t).toList=t:=ByteArray.toList_mk t
theorem jQ{a b:di}{A B:Prop}(ha:a=b->A)(hb:a≠b->B): @Bool.rec (fun _=>Prop) B A ((cu a).toList==(cu b).toList):=by
 rw[s8,s8];cases h:(a==b)
 .exact hb (by simpa using h)
 .exact ha (by simpa using h)
def KH(n:Nat):Bool:=(decide (97<=n)&&decide (n<=122))||(decide (48<=n)&&decide (n<=57))||decide (n=46)||decide (n=95)
def fo(t:di):Bool:=decide (1<=t.length)&&decide (t.length<=12)&&decide (t≠[46])&&decide (t≠[46,46])&&t.all fun c=>KH c.toNat
theorem DM{t:di}{k:Nat}(hk:k<t.length)(h:KH t[k].toNat=false):fo t=false:=by
 have:(t.all fun c=>KH c.toNat)=false:=by
  rw[abS];exact⟨t[k],XP hk,by simp[h]⟩
 simp[fo,this]
theorem DN{t:di}(h1:1<=t.length)(h2:t.length<=12)(h3:t≠[46])(h4:t≠[46,46])(h:∀k(hk:k<t.length),KH t[k].toNat=true):fo t=true:=by
 have:(t.all fun c=>KH c.toNat)=true:=by rw[aas];intro c hc;obtain⟨k,hk,rfl⟩:=List.mem_iff_getElem.1 hc;exact h k hk
 simp[fo,this,h1,h2,h3,h4]
theorem TR{n:Nat}(h1:¬(97<=n/\n<=122))(h2:¬(48<=n/\n<=57))(h3:n≠46)(h4:n≠95):KH n=false:=by
 have a:¬(97<=n)\/¬(n<=122):=om;have b:¬(48<=n)\/¬(n<=57):=om;unfold KH;rcases a with a|a<;>rcases b with b|b<;>simp[a,b,h3,h4]
theorem TS{n:Nat}(h:(97<=n/\n<=122)\/(48<=n/\n<=57)\/n=46\/n=95):KH n=true:=by
 unfold KH;rcases h with⟨a,b⟩|⟨a,b⟩|h|h<;>simp_all
theorem l99:bq Tryz.prog Tryz.f99=some c99:=by kernel_rfl
theorem XA{t:di}{k:Nat}(hk:k<t.length):dg (cu t).data.toList (k:Nat)=some t[k]:=by rw[bF,oe,tq hk]
theorem fE(t:di):(((cu t).size:Nat):Int)=t.length:=by rw[lP]
theorem rH(t:di):body Tryz.prog c99 [vT t] [] (fun r m=>r=aA (fo t)):=by
 refine aJ (fun h=>?_) (fun h=>?_)
 .rw[fE]at h;have:fo t=false:=by simp[fo];omega
  rw[this];rfl
 rw[fE]at h;refine aJ (fun h2=>?_) (fun h2=>?_)
 .rw[fE]at h2;have:fo t=false:=by simp[fo];omega
  rw[this];rfl
 rw[fE]at h2;refine jQ (b:=[46]) (fun h3=>?_) (fun h3=>?_)
 .subst h3;rfl
 refine jQ (b:=[46,46]) (fun h4=>?_) (fun h4=>?_)
 .subst h4;rfl
 refine aX (fun k=>k<=t.length/\∀j(hj:j<t.length),j<k->KH t[j].toNat=true) [0] (fun k=>[(22,an .i64 (t.length:Nat)),(23,an .i64 (k:Nat))]) (fun _=>[]) (fun k=>t.length-k) 0 ⟨XL _,fun j _ h=>absurd h (aal _)⟩ ?_ (fun k hk=>?_)
 .refine View.o 0 [] [] ?_ (.nil _);repeat(first|exact .nil|refine .aq ?_|refine .eq rfl ?_|refine .put (.aP (by rw[fE];rfl)) ?_)
 obtain⟨hk,eB⟩:k<=t.length/\∀j(hj:j<t.length),j<k->KH t[j].toNat=true:=hk;refine aJ (fun h5=>?_) (fun h5=>?_)
 .have aF:k<t.length:=by have h5:(k:Int)<(t.length:Int):=h5;omega
  refine ag (XA aF) ?_;repeat' first|refine aJ (fun _=>?_) (fun _=>?_)|refine bu (fun _=>?_) (fun _=>?_)
  all_goals first
   |(show aA false=aA (fo t)
     rw[DM aF (TR om om om om)])
   |(refine⟨k+1,⟨aF,fun j hj hjk=>?_⟩,(show t.length-(k+1)<t.length-k by omega),View.o 0 [] [] ?_ (.nil _)⟩
     .rcases XN j k with h|h
      .exact eB j hj h
      .have:j=k:=om;subst this;exact TS om
     .repeat(first|exact .nil|refine .aq ?_|refine .put (.aP (aL om).symm) ?_|refine .eq rfl ?_))
 .show aA true=aA (fo t);have h5:¬(k:Int)<(t.length:Int):=h5;rw[DN om om h3 h4 fun j hj=>eB j hj om]
theorem yS(t:di){m:Mem}{K:CV->Mem->Prop}(h:K (aA (fo t)) m):ar Tryz.prog 99 [vT t] m K:=
 bo Tryz.func99 l99 rfl (T3 rfl) (rH t) rfl rfl h
end bD
def c59:LF:= ⟨37,[.cell false 1 2,.cell false 1 3,.cell false 1 4],(.seq (.ai [qu 2 (.alloc [.aB]),qu 3 (.alloc [(.aa (.val (.bool false)))]),qu 4 (.alloc [(qd 0)])]) (.seq (.seq (.ai [qm 7 0,qu 8 (.aE .eql 7 (.c (.rv (.one (.aa (.val (.string ⟨#[]⟩)))))))]) (.cond 8 (.seq (.ai [qw (.store 1 2 qe),qw (.store 1 3 (qb false)),qw (.store 1 4 (qi 2))]) .ret) .skip)) (.seq (.seq (.ai [qm 9 0,qu 10 (.len 0 9),qu 11 (.aE .gtr 10 (qi 60))]) (.cond 11 (.seq (.ai [qw (.store 1 2 qe),qw (.store 1 3 (qb false)),qw (.store 1 4 (qi 4))]) .ret) .skip)) (.seq (.ai [qu 5 (.alloc [.aB])]) (.seq (.seq (.ai [qm 12 0,qu 13 (qc 98 [12,(.c (.rv (.one (.aa (.val (.string ⟨#[47]⟩))))))])]) (.block 0 (.v7 13 14 (.ai [qm 6 14]) (.block 1 (.block 2 (.seq (.ai [qm 16 6,qu 17 (.aE .eql 16 (.c (.rv (.one (.aa (.val (.string ⟨#[]⟩))))))),qm 18 17,qg 19 (.aD 6) 18 false,qg 20 (.aE .eql 19 (.c (.rv (.one (.aa (.val (.string ⟨#[46]⟩))))))) 18 false,qu 21 (.pick 18 (qb true) 20),qm 15 21]) (.cond 15 .skip (.seq (.ai [qm 23 6,qu 24 (.aE .eql 23 (.c (.rv (.one (.aa (.val (.string ⟨#[46,46]⟩))))))),qm 25 24,qg 26 (.aD 6) 25 false,qg 27 (qc 99 [26]) 25 false,qu 28 (.pick 25 (qb true) 27),qm 22 28]) (.cond 22 (.ai [ql 29 5,qm 30 6,qu 31 (.lu 1 [(.aa (.val (.string ⟨#[]⟩)))] 1 [(0,30)]),qu 32 (.mY 1 16 29 31),qw (.store 1 5 32)]) (.seq (.ai [qw (.store 1 2 qe),qw (.store 1 3 (qb false)),qw (.store 1 4 (qi 7))]) .ret)))))))))) (.seq (.bT [ql 33 5,qm 34 0,qu 35 (.zR 34 (qi 0)),qu 36 (.aE .eql 35 (.c (.rv (.one (.aa (.val (.int .u8 (47)))))))),qw (.store 1 2 33),qw (.store 1 3 36),qw (.store 1 4 (qi 0))] [(.cons 0 none (.cons 1 none (.cons 2 none (.cons 3 none (.cons 4 (some []) (.cons 5 (some []) (.cons 6 (some []) .nil)))))))]) .ret))))))⟩
def c98:LF:= ⟨8,[.tmp 4],(.seq (.ai [qu 4 (.aD (.c (.rv (.one (.aa (.val .nilFunc))))))]) (.seq (.ai [qm 5 0,qm 6 1,qu 7 (qc 124 [5,6,(qi 0)]),qm 4 7]) .ret))⟩
def c124:LF:= ⟨8,[.tmp 6],(.seq (.ai [qu 3 (.box 0),qu 4 (.box 1),qu 5 (.box 2),qu 6 (.aD (.c (.rv (.one (.aa (.val .nilFunc))))))]) (.seq (.ai [qu 7 (.fn 140 [4,3,5]),qm 6 7]) .ret))⟩
namespace bD
theorem l124:bq Tryz.prog Tryz.f124=some c124:=by kernel_rfl
theorem l98:bq Tryz.prog Tryz.f98=some c98:=by kernel_rfl
def TT(s:ByteArray):Bk:= .var [.aa (.val (.string s))]
def ZF(s sep:ByteArray)(b0 b1 b2 b3:Bk):Mem:=[b0,b1,b2,b3,TT s,TT sep,.var [.aa (.val (.int .i64 0))]]
theorem XB(s sep:ByteArray){b0 b1 b2 b3:Bk}{K:CV->Mem->Prop}(h:K (.rv (.one (.fn 140 [5,4,6]))) (ZF s sep b0 b1 b2 b3)):ar Tryz.prog 124 [dk s,dk sep,an .i64 0] [b0,b1,b2,b3] K:=
 aW Tryz.func124 l124 h
theorem XC(s sep:ByteArray){b0 b1 b2 b3:Bk}{K:CV->Mem->Prop}(h:K (.rv (.one (.fn 140 [5,4,6]))) (ZF s sep b0 b1 b2 b3)):ar Tryz.prog 98 [dk s,dk sep] [b0,b1,b2,b3] K:=by refine aW Tryz.func98 l98 ?_;exact XB s sep h
theorem uY(c:UInt8):∀t:di,(fS c t).length<=t.length+1
 | []=>by simp[fS]
 |x::r=>by
  have ih:=uY c r;simp only[fS];split
  .simp;exact ih
  .split
   .simp
   .rename_i h;rw[h]at ih;simp at ih⊢;omega
theorem cG(a b:List (List Dt)):af (a++b)=af a++af b:=by simp[af]
theorem Nm(c:UInt8)(r:di):decide ((c::r)[0]? =some 47)=((c.toNat:Int)==47):=by
 by_cases h:c=47
 .subst h;rfl
 .have h2:(c.toNat:Int)≠47:=by
   intro e;have e2:c.toNat=(47:UInt8).toNat:=by show c.toNat=47;omega
   exact h (UInt8.toNat_inj.1 e2)
  simp[h,h2]
theorem l59:bq Tryz.prog Tryz.f59=some c59:=by kernel_rfl
def tD(t:di):List Dt:=[.val (.string (cu t))]
def VK(l:List di):Dt:= .sl 1 (l.map tD)
def txV(l:List di):CV:= .rv (.one (.aa (VK l)))
def qj(w:di):Bool:= !(decide (w=[])||decide (w=[46]))
def qk(w:di):Bool:=decide (w=[])||decide (w=[46])||decide (w=[46,46])||fo w
def yT(t:di):List di:=(fS 47 t).filter qj
def cA(t:di):List di×Bool×Int:=
 if t=[]then([],false,2)else if 60<t.length then([],false,4)else if(fS 47 t).all qk then(yT t,decide (t[0]? =some 47),0)else([],false,7)
def Qy(p:List di×Bool×Int):CV:= .bG [.one (.aa (VK p.1)),.one (.aa (.val (.bool p.2.1))),.one (.aa (.val (.int .i64 p.2.2)))]
def pt(id:Nat):CV:= .rv (.one (.ptr id 0))
def Nn(t:di):List CV:=vT t:: .aq::pt 0::pt 1::pt 2::pt 3::fI 31 .aq
def Qz:List di->Mem
 | []=>[.var [.aB],.var [.aa (.val (.bool false))],.var [.aa (.val (.int .i64 0))],.var [.aB]]
 |x::r=>[.var [.aB],.var [.aa (.val (.bool false))],.var [.aa (.val (.int .i64 0))],.var [.row 4 1 0 none],.row 1 (af ((x::r).map tD))]
theorem DO{c:UInt8}{t:di}{k:Nat}{y:ByteArray}(h:(gl c (cu t))[k]? =some y):∃w,(fS c t)[k]? =some w/\y=cu w:=by
 simp only[gl,oe,O6]at h;cases hc:(fS c t)[k]? with
 |none=>rw[hc]at h;cases h
 |some w=>rw[hc]at h;cases h;exact⟨w,rfl,rfl⟩
theorem k7{m:Mem}{c:CC}{l:List di}{b:Bool}{e:Int}(h:dY m c (.aa (VK l))):cw m (.bG [.one c,.one (.aa (.val (.bool b))),.one (.aa (.val (.int .i64 e)))]) (Qy (l,b,e)):=by
 refine .bG rfl fun i r r' h1 h2=>?_
 match i with
 |0=>cases h1;cases h2;exact .one h
 |1=>cases h1;cases h2;exact .one (.aa _)
 |2=>cases h1;cases h2;exact .one (.aa _)
 |n+3=>simp at h1
theorem DP(t:di):body Tryz.prog c59 [vT t] [] (fun r m=>cw m r (Qy (cA t))):=by
 refine jQ (b:=[]) (fun h=>?_) (fun h0=>?_)
 .subst h;exact k7 (.aB 1)
 refine aJ (fun h=>?_) (fun h1=>?_)
 .rw[fE]at h;have:cA t=([],false,4):=by rw[cA,if_neg h0,if_pos om]
  rw[this];exact k7 (.aB 1)
 rw[fE]at h1;refine XC (cu t) ⟨#[47]⟩ ?_;refine⟨140,[5,4,6],[.string ⟨#[47]⟩,.string (cu t),.int .i64 0],gl 47 (cu t),List di,fun k out=>out=((fS 47 t).take k).filter qj/\((fS 47 t).take k).all qk=true,fun out=>⟨Nn t,Qz out⟩,rfl,
  ⟨⟨rfl,rfl⟩,⟨rfl,rfl⟩,⟨rfl,rfl⟩,trivial⟩,⟨by decide,aK⟩,HA (cu t) 47 (by rw[fE];omega),⟨[],⟨aK,aK⟩,?_⟩,?_,?_⟩
 .refine View.o1 7 [0,1,2,3] [] ?_
  .repeat(first|exact .nil _|refine .put (by simp[bs]) rfl (.eq rfl aK) ?_)
 .intro k y out hk hJ;obtain⟨w,hw,rfl⟩:=DO hk;obtain⟨ho,hg⟩:=hJ;have OX:(fS 47 t).take (k+1)=(fS 47 t).take k++ [w]:=by rw[aaL,hw];rfl
  have skip:w=[]\/w=[46]->out=((fS 47 t).take (k+1)).filter qj/\((fS 47 t).take (k+1)).all qk=true:=by
   intro h;rw[OX,ach,List.all_append,<-ho,hg];rcases h with rfl|rfl<;>simp[qj,qk]
  have eV:w≠[]->w≠[46]->(w=[46,46]\/fo w=true)->out++ [w]=((fS 47 t).take (k+1)).filter qj/\((fS 47 t).take (k+1)).all qk=true:=by
   intro h1 h2 h3;rw[OX,ach,List.all_append,<-ho,hg];rcases h3 with rfl|h3
   .simp[qj,qk]
   .simp[qj,qk,h1,h2,h3]
  have bad:w≠[]->w≠[46]->w≠[46,46]->fo w=false->cA t=([],false,7):=by
   intro h1 h2 h3 h4;have:(fS 47 t).all qk=false:=by
    rw[abS];exact⟨w,O9 hw,by simp[qk,h1,h2,h3,h4]⟩
   rw[cA,if_neg h0,if_neg om,this];rfl
  have hlen:out.length<=61:=by
   rw[ho];have h2:=abi qj ((fS 47 t).take k);have h3:=uY 47 t;have h4:((fS 47 t).take k).length<=(fS 47 t).length:=by rw[Z3];omega
   omega
  clear ho hg OX hk;cases out with
  |nil=>
   have dz:View 0 ⟨Nn t,Qz []⟩ ⟨Nn t,Qz []⟩:=by
    refine View.o1 4 [0,1,2,3] [] ?_
    .repeat(first|exact .nil _|refine .put (by simp[bs]) rfl (.eq rfl aK) ?_)
   have hU:∀m,m=([.var [.aB],.var [.aa (.val (.bool false))],.var [.aa (.val (.int .i64 0))],.var [.row 5 1 0 none],.aZ,.row 1 ([]++ [[.aa (.val (.string (cu w)))]])]:Mem)->View 0 ⟨Nn t,m⟩ ⟨Nn t,Qz ([]++ [w])⟩:=by
    rintro m rfl;refine View.o1 6 [0,1,2,3,5] [] ?_
    .repeat(first|exact .nil _|refine .put (by simp[bs]) rfl (.eq rfl aK) ?_)
   refine jQ (b:=[]) (fun e1=>?_) (fun e1=>?_)
   .exact⟨[],skip (.inl e1),dz⟩
   refine jQ (b:=[46]) (fun e2=>?_) (fun e2=>?_)
   .exact⟨[],skip (.inr e2),dz⟩
   refine jQ (b:=[46,46]) (fun e3=>?_) (fun e3=>?_)
   .exact⟨(show 1*16<=140737488355328 by omega),_,eV e1 e2 (.inl e3),hU _ rfl⟩
   .refine yS w ?_;refine ay (fun e4=>?_) (fun e4=>?_)
    .exact⟨(show 1*16<=140737488355328 by omega),_,eV e1 e2 (.inr e4),hU _ rfl⟩
    .rw[bad e1 e2 e3 e4];exact k7 (.aB 1)
  |cons x r=>
   have dz:View 0 ⟨Nn t,Qz (x::r)⟩ ⟨Nn t,Qz (x::r)⟩:=by
    refine View.o1 5 [0,1,2,3,4] [] ?_
    .refine .put (by simp[bs]) rfl (.eq rfl aK) (.put (by simp[bs]) rfl (.eq rfl aK) (.put (by simp[bs]) rfl (.eq rfl aK) (.put (by simp[bs]) rfl (.eq rfl aK) (.put (by simp[bs]) rfl (.bR rfl) (.nil _)))))
   have hU:∀m,m=([.var [.aB],.var [.aa (.val (.bool false))],.var [.aa (.val (.int .i64 0))],.var [.row 6 1 0 none],.aZ,.aZ,.row 1 (af ((x::r).map tD)++ [[.aa (.val (.string (cu w)))]])]:Mem)->View 0 ⟨Nn t,m⟩ ⟨Nn t,Qz ((x::r)++ [w])⟩:=by
    rintro m rfl;refine View.o1 7 [0,1,2,3,6] [] ?_
    .refine .put (by simp[bs]) rfl (.eq rfl aK) (.put (by simp[bs]) rfl (.eq rfl aK) (.put (by simp[bs]) rfl (.eq rfl aK) (.put (by simp[bs]) rfl (.eq rfl aK) (.put (by simp[bs]) rfl (.bR ?_) (.nil _)))))
     show _=af (((x::r)++ [w]).map tD);rw[aax,cG];rfl
   have qK:((af ((x::r).map tD)).length+1)*16<=140737488355328:=by simp[af];simp at hlen;omega
   refine jQ (b:=[]) (fun e1=>?_) (fun e1=>?_)
   .exact⟨_,skip (.inl e1),dz⟩
   refine jQ (b:=[46]) (fun e2=>?_) (fun e2=>?_)
   .exact⟨_,skip (.inr e2),dz⟩
   refine jQ (b:=[46,46]) (fun e3=>?_) (fun e3=>?_)
   .exact⟨qK,_,eV e1 e2 (.inl e3),hU _ rfl⟩
   .refine yS w ?_;refine ay (fun e4=>?_) (fun e4=>?_)
    .exact⟨qK,_,eV e1 e2 (.inr e4),hU _ rfl⟩
    .rw[bad e1 e2 e3 e4];exact k7 (.aB 1)
 .intro out hJ;obtain⟨ho,hg⟩:=hJ;have iI:(gl 47 (cu t)).length=(fS 47 t).length:=by simp[gl]
  rw[iI,aan]at ho hg;have hs:cA t=(out,decide (t[0]? =some 47),0):=by rw[cA,if_neg h0,if_neg om,hg];simp[yT,ho]
  rw[hs];obtain⟨c,r,rfl⟩:∃c r,t=c::r:=by
   cases t with
   |nil=>exact absurd rfl h0
   |cons c r=>exact⟨c,r,rfl⟩
  have hc:decide ((c::r)[0]? =some 47)=((c.toNat:Int)==47):=Nm c r;cases out with
  |nil=>
   rw[hc];refine⟨trivial,trivial,trivial,?_⟩;exact k7 (l:=[]) (c:= .aB) (.aB 1)
  |cons x r=>
   rw[hc];refine⟨trivial,trivial,trivial,?_⟩;exact k7 (l:=x::r) (c:= .row 4 1 0 none) (dY.d6 (ds:=(x::r).map tD) rfl 0 none)
theorem uZ(t:di){m:Mem}{K:CV->Mem->Prop}(h:K (Qy (cA t)) m):ar Tryz.prog 59 [vT t] m K:=
 aY (aW Tryz.func59 l59 (DP t)) (by simp[vT,dk,CV.c7,CC.c7]) fun r m1 hf=>⟨_,hf,h⟩
end bD
namespace bD
theorem bb(l:List (List Dt)):(af l).length=l.length:=by simp[af]
end bD
def XD:Ob:=⟨0,[],[],⟨#[]⟩,0,noD,0,0,0⟩
def j9(l:List Ob)(n:Nat):Ob:=(l[n]?).getD XD
theorem rI{l:List Ob}{n:Nat}(h:n<l.length):j9 l n=l[n]:=by rw[j9,tq h];rfl
structure R4 where
 bt:Int
 cE:Int
 name:bD.di
 ix:Int
def R4.no(e:Int):R4:=⟨0,0,[],e⟩
def gS(o:Ob):List NE:=o.aj.map mH
def lh(l:List Ob)(cU:Nat)(w:bD.di):Int:=fg (gS (j9 l cU)) (bD.cu w)
def yU(l:List Ob)(cU:Nat):Nat:=(j9 l cU).up.toNat
def F3(l:List Ob)(au:Nat)(ax follow:Bool)(rec:Nat->List bD.di->Nat->R4):List bD.di->Nat->R4
 | [],a=>⟨a,yU l a,[],0⟩
 |w::rest,a=>
  if(j9 l a).ah≠2 then R4.no 11
  else if w=[46,46]then(if ax=true/\a=au then R4.no 14 else F3 l au ax follow rec rest (yU l a))
  else if lh l a w<0 then(if rest≠[]then R4.no 6 else⟨-1,a,w,0⟩)
  else if(j9 l (lh l a w).toNat).ah=3/\(follow=true\/rest≠[])then rec a rest (lh l a w).toNat
  else if rest=[]then⟨lh l a w,a,w,0⟩
  else F3 l au ax follow rec rest (lh l a w).toNat
def KJ(l:List Ob)(k:Nat):bD.di:=(j9 l k).target.data.toList
def No(l:List Ob)(ax:Bool)(wk:List bD.di->Nat->R4)(a:Nat)(rest:List bD.di)(k:Nat):R4:=
 if(bD.cA (KJ l k)).2.2≠0 then R4.no (bD.cA (KJ l k)).2.2
 else if(bD.cA (KJ l k)).2.1=true/\ax=true then R4.no 14
 else wk ((bD.cA (KJ l k)).1++rest) (if(bD.cA (KJ l k)).2.1=true then 0 else a)
def zQ(l:List Ob)(au:Nat)(ax follow:Bool):Nat->List bD.di->Nat->R4
 |0=>F3 l au ax follow fun _ _ _=>R4.no 13
 |n+1=>F3 l au ax follow (No l ax (zQ l au ax follow n))
def oF(l:List Ob)(au:Int)(s:bD.di)(ax follow:Bool):R4:=
 if ns l au 0=true then
  if(j9 l au.toNat).ah≠2 then R4.no 11
  else if(bD.cA s).2.2≠0 then R4.no (bD.cA s).2.2
  else if(bD.cA s).2.1=true/\ax=true then R4.no 14
  else zQ l au.toNat ax follow 6 (bD.cA s).1 (if(bD.cA s).2.1=true then 0 else au.toNat)
 else R4.no 6
structure mi(l:List Ob):Prop where
 len:l.length<=64
 pos:0<l.length
 en:∀o,o∈l->Tx l.length o.ah o.aj
 ne:∀o,o∈l->o.aj.length<=64
 up:∀o,o∈l->0<=o.up/\o.up<l.length
theorem mi.QA{l:List Ob}(h:mi l)(n:Nat):yU l n<l.length:=by
 rw[yU,j9];cases hn:l[n]? with
 |none=>show(0:Int).toNat<l.length;have:=h.pos;simpa using this
 |some o=>have:=h.up o (O9 hn);show o.up.toNat<l.length;omega
theorem mi.KK{l:List Ob}(h:mi l){n:Nat}(hn:n<l.length):l[n].up=(yU l n:Nat):=by rw[yU,rI hn];have:=h.up _ (XP hn);omega
theorem mi.dI{l:List Ob}(h:mi l)(n:Nat):Dg (gS (j9 l n))/\(∀e,e∈gS (j9 l n)->0<=e.2/\e.2<(l.length:Int))/\(gS (j9 l n)).length<=64/\∀hn:n<l.length,l[n].aj=(gS (j9 l n)).map fD:=by
 rw[j9];cases hn:l[n]? with
 |none=>
  refine⟨List.Pairwise.nil,by simp[gS,XD],by simp[gS,XD],fun h=>?_⟩
  rw[tq h]at hn;cases hn
 |some o=>
  obtain⟨es,h1,h2,h3,h4⟩:=(h.en o (O9 hn)).ex;have h5:gS o=es:=by rw[gS,h1,me]
  show Dg (gS o)/\(∀e,e∈gS o->_)/\(gS o).length<=64/\∀hn:n<l.length,l[n].aj=(gS o).map fD;rw[h5];refine⟨h2,h3,?_,fun h=>?_⟩
  .have:=h.ne o (O9 hn);rw[h1,LW]at this;exact this
  .rw[tq h]at hn;cases hn;exact h1
theorem mi.QB{l:List Ob}(h:mi l)(n:Nat)(w:bD.di)(hf:¬lh l n w<0):∃k:Nat,lh l n w=k/\k<l.length:=by
 obtain⟨_,h2,_,_⟩:=h.dI n;rcases iK (gS (j9 l n)) (bD.cu w)with⟨e,he,_,h3⟩|⟨h3,_⟩
 .obtain⟨h4,h5⟩:=h2 e he;exact⟨e.2.toNat,by rw[lh,h3];omega,om⟩
 .rw[lh,h3]at hf;omega
theorem KL{a b:ByteArray}:jP a b<0↔yB a b:=by
 unfold jP yB;by_cases h:O4 a b=true
 .rw[if_pos h];exact⟨fun _=>h,fun _=>om⟩
 .rw[if_neg h];refine⟨fun h2=>?_,fun h2=>absurd h2 h⟩
  split at h2<;>omega
theorem u0{a b:ByteArray}:jP a b=0↔a.toList=b.toList:=by
 unfold jP;by_cases h:O4 a b=true
 .rw[if_pos h];refine⟨fun h2=>om,fun h2=>?_⟩
  rw[O4,h2,nr]at h;cases h
 .rw[if_neg h];rw[abB]at h;by_cases h2:RM a b=true
  .rw[if_pos h2];refine⟨fun h3=>om,fun h3=>?_⟩
   unfold RM at h2;rw[h3]at h2;simp at h2
  .rw[if_neg h2];refine⟨fun _=>?_,fun _=>rfl⟩
   unfold RM at h2;unfold O4 at h;rw[h]at h2;simpa using h2
theorem nB{es:List NE}(hs:Dg es)(s:ByteArray):∀(n i j:Nat),j-i<=n->i<=j->j<=es.length->(∀(k:Nat)e,k<i->es[k]? =some e->yB e.1 s)->(∀(k:Nat)e,j<=k->es[k]? =some e->¬yB e.1 s)->
  Hv es s n i j<=es.length/\(∀(k:Nat)e,k<Hv es s n i j->es[k]? =some e->yB e.1 s)/\∀(k:Nat)e,Hv es s n i j<=k->es[k]? =some e->¬yB e.1 s
 |0,i,j,hn,pG,hj,h1,h2=>by have:i=j:=om;subst this;exact⟨hj,h1,h2⟩
 |n+1,i,j,hn,pG,hj,h1,h2=>by
  rw[Hv];by_cases aF:i<j
  .rw[if_pos aF];have hh:(i+j)/2<es.length:=om;rw[tq hh];simp only[];have hp:=aaY.1 hs;by_cases hc:jP es[(i+j)/2].1 s<0
   .rw[if_pos hc];refine nB hs s n _ _ om om hj (fun k e hk he=>?_) h2
    have gK:=KL.1 hc;obtain⟨fy,rfl⟩:=Hy.1 he;rcases XN k ((i+j)/2)with h3|h3
    .exact pZ (hp k _ fy hh h3) gK
    .have:k=(i+j)/2:=om;subst this;exact gK
   .rw[if_neg hc];refine nB hs s n _ _ om om om h1 fun k e hk he hl=>?_
    have gK:¬yB es[(i+j)/2].1 s:=fun h=>hc (KL.2 h)
    obtain⟨fy,rfl⟩:=Hy.1 he;rcases XN ((i+j)/2) k with h3|h3
    .exact gK (pZ (hp _ k hh fy h3) hl)
    .have:k=(i+j)/2:=om;subst this;exact gK hl
  .rw[if_neg aF];have:i=j:=om;subst this;exact⟨hj,h1,h2⟩
theorem F4{es:List NE}(hs:Dg es)(s:ByteArray):yC es s (if yP es s=true then(match es[oZ es s]? with|some e=>e.2|none=>0)else -1):=by
 obtain⟨h0,h1,h2⟩:=nB hs s es.length 0 es.length om om om (fun k e hk=>absurd hk (aal k)) (fun k e hk he=>by have:=(Hy.1 he).1;omega)
 have hI:Hv es s es.length 0 es.length=oZ es s:=rfl;rw[hI]at h0 h1 h2;unfold yP;cases he:es[oZ es s]? with
 |none=>
  simp only[];rw[if_neg aK];refine .inr ⟨rfl,fun e hm heq=>?_⟩
  obtain⟨k,hk⟩:=Xz hm;have fy:=(Hy.1 hk).1;have:es.length<=oZ es s:=abI.1 he;have:=h1 k e om hk;rw[yB,heq,nr]at this;cases this
 |some e=>
  simp only[];by_cases hc:jP e.1 s=0
  .rw[if_pos (by rw[hc];rfl)]
   exact .inl ⟨e,O9 he,u0.1 hc,rfl⟩
  .rw[if_neg (by simpa using hc)]
   refine .inr ⟨rfl,fun e' hm heq=>?_⟩
   obtain⟨k,hk⟩:=Xz hm;obtain⟨fy,yF⟩:=Hy.1 hk;obtain⟨JE,mZ⟩:=Hy.1 he;rcases abQ k (oZ es s)with h3|h3|h3
   .have:=h1 k e' h3 hk;rw[yB,heq,nr]at this;cases this
   .subst h3;rw[he]at hk;cases hk;exact hc (u0.2 heq)
   .have hp:=aaY.1 hs _ k JE fy h3;rw[mZ,yF]at hp;have j8:=h2 _ e (QN _) he;apply j8;rw[yB,<-heq];exact hp
theorem yV(d:List (List Dt))(hb:d.length<=4194304):body Tryz.prog c90 [pV 1 d] [] (fun r m=>∃r' m',View 0 ⟨[r],m⟩ ⟨[r'],m'⟩/\r'= .rv (.one (.row 0 1 0 none))/\m'=[.row 1 (af d)]):=by
 have qK:((([]:List (List CC)).length+(d.map fun ds=>ds.map CC.aa).length)*1)<=140737488355328:=by simp;omega
 have hU:∃r' m',View 0 ⟨[CV.rv (.one (.row 1 1 0 none))],[.aZ,.row 1 (ct ([]:List (List CC)) 0 none++d.map fun ds=>ds.map CC.aa)]⟩ ⟨[r'],m'⟩/\r'=CV.rv (.one (.row 0 1 0 none))/\m'=[Bk.row 1 (af d)]:=
  ⟨_,_,View.o 2 [1] [] (.eq rfl .nil) (.pn rfl rfl rfl),rfl,rfl⟩
 refine ay (fun h=>?_) (fun h=>?_)
 .have hd:d=[]:=XJ (by simpa using XM h)
  refine⟨?_,qK,hU⟩;subst hd;exact⟨_,_,View.aB 0 1 0 rfl rfl rfl,rfl,rfl⟩
 .exact⟨qK,hU⟩
theorem gm(σ:Nat->Nat)(ds:List (List Dt)):(af ds).map (fun cs=>cs.map (CC.aP σ))=af ds:=by simp[af,abR,CC.aP]
theorem DQ(d:List (List Dt))(hb:d.length<=4194304){m:Mem}{K:CV->Mem->Prop}(h:K (.rv (.one (.row m.length 1 0 none))) (m++ [.row 1 (af d)])):ar Tryz.prog 90 [pV 1 d] m K:=by
 refine bv [] m.length rfl rfl rfl rfl (args0:=[pV 1 d]) rfl (fun i b' hi=>by simp at hi) (K0:=fun r m=>r= .rv (.one (.row 0 1 0 none))/\m=[.row 1 (af d)]) (bK (aW Tryz.func90 l90 (yV d hb)) fun r m1 h=>h) (fun r m1 hr=>?_)
 obtain⟨rfl,rfl⟩:=hr;refine⟨XL _,?_⟩;show K (.rv (.one (.row (m.length+(0-0)) 1 0 none))) (gX m [.row 1 ((af d).map (fun cs=>cs.map (CC.aP (sg [] m.length))))])
 rw[gm,cg];exact h
def mW(Q:Nat)(o:Obj):List CC:=[.aa (.val (.int .i64 o.ah)),.row Q 1 0 none,.aa (.sl 2 o.aj),.aa (.val (.string o.target)),.aa (.val (.int .i64 o.aG)),
 .aa (.sl 4 (o.ak.map bp.enc)),.aa (.val (.int .i64 o.aM)),.aa (.val (.int .i64 o.am)),.aa (.val (.int .i64 o.up))]
def XE(o:Obj):Nat->Mem
 |0=>[.row 9 [],.aZ]
 |_+1=>[.row 9 [mW 1 o],.row 1 (af o.data)]
theorem HB(o:Obj)(hf:o.mU):body Tryz.prog c91 [cq [o]] [] (fun r m=>r= .rv (.one (.row 0 9 0 none))/\m=[.row 9 [mW 1 o],.row 1 (af o.data)]):=by
 obtain⟨ah,data,aj,target,aG,ak,aM,am,up⟩:=o;obtain⟨JV,IH,ON,II⟩:=hf;have JV:data.length<=4194304:=JV;have IH:aj.length<=4194304:=IH;have ON:ak.length<=4194304:=ON;have II:∀q,q∈ak->q.data.length<=4194304:=II;refine aX (fun k=>k<=1) [0,9,10] (fun k=>[(11,an .i64 (k:Nat)),(3,.rv (.one (.row 0 9 0 none)))]) (XE ⟨ah,data,aj,target,aG,ak,aM,am,up⟩) (fun k=>1-k) 0 (XL _) ?_ (fun k hk=>?_)
 .refine View.trans (View.aB 2 4 0 rfl rfl rfl) (View.trans (View.aB 3 9 1 rfl rfl rfl) (View.o1 2 [1,0] [] ?_))
  .exact .put (by simp[bs]) rfl (.eq rfl aK) (.aZ (.nil _))
 have hk:k<=1:=hk
 match k,hk with
 |0,_=>
  refine DQ data JV ?_;refine⟨⟨rfl,trivial⟩,?_⟩;refine ri aj IH ?_;refine⟨trivial,?_⟩;refine⟨trivial,?_⟩;refine⟨trivial,?_⟩;refine aX (fun j=>j<=ak.length) [0,3,5,9,10,11,24,25] (fun j=>[(26,an .i64 (j:Nat)),(6,.rv (.one (.row 4 4 0 none)))])
    (fun j=>[.row 9 [],.aZ,.var (mW 3 ⟨ah,data,aj,target,aG,ak,aM,am,up⟩),.row 1 (af data),.row 4 (af ((ak.take j).map bp.enc))]) (fun j=>ak.length-j) 0 (XL _) ?_ (fun j hj=>?_)
  .refine View.trans (View.aB 6 4 4 rfl rfl rfl) (View.o1 5 [0,1,2,3,4] [] ?_)
   .exact .pe rfl rfl rfl (.aZ (.pe rfl rfl rfl (.pr rfl rfl rfl (.pn rfl rfl rfl))))
  have hj:j<=ak.length:=hj;refine aJ (fun h=>?_) (fun h=>?_)
  .have dP:j<ak.length:=by have h:(j:Int)<((ak.map bp.enc).length:Int):=h;rw[LW]at h;omega
   have wn:=tq dP;have Hc:=II _ (XP dP);generalize ak[j]=q at wn Hc;obtain⟨qd,qh,qo,qr⟩:=q;have zP:dg (ak.map bp.enc) (j:Nat)=some [.sl 1 qd,.val (.bool qh),.val (.int .i64 qo),.val (.int .i64 qr)]:=by rw[bF,O6,wn];rfl
   refine ag zP ?_;refine gv qd Hc ?_;refine⟨?_,?_⟩
   .show((af ((ak.take j).map bp.enc)).length+1)*48<=_;simp[af];omega
   refine⟨j+1,dP,(show ak.length-(j+1)<ak.length-j by omega),View.o 8 [0,1,2,3,7] [] ?_ ?_⟩
   .repeat(first|exact .nil|refine .aq ?_|refine .put (.aP (aL om).symm) ?_|refine .eq rfl ?_)
   .refine .pe rfl rfl rfl (.aZ (.pe rfl rfl rfl (.pr rfl rfl rfl (.pt rfl rfl (.bR ?_) (.nil _)))));rw[sU wn,aax,cG];rfl
  .have ef:¬(j:Int)<((ak.map bp.enc).length:Int):=h;rw[LW]at ef;have hq:ak.take j=ak:=aaV om;refine⟨by show(0+1)*128<=140737488355328;omega,?_⟩
   refine⟨1,QN 1,(show 1-1<1-0 by omega),View.o 7 [6,3] [4] ?_ ?_⟩
   .repeat(first|exact .nil|refine .aq ?_|refine .put (.aP (aL om).symm) ?_|refine .eq rfl ?_)
   .refine .pt rfl rfl (lU.Dd (R:=[]) (R':=[]) rfl rfl ?_) (.pn rfl rfl rfl);intro j' c c' h1 h2;have e5:mW 1 ⟨ah,data,aj,target,aG,ak,aM,am,up⟩=[.aa (.val (.int .i64 ah)),.row 1 1 0 none,.aa (.sl 2 aj),.aa (.val (.string target)),.aa (.val (.int .i64 aG)),.aa (.sl 4 ((ak.take j).map bp.enc)),.aa (.val (.int .i64 aM)),.aa (.val (.int .i64 am)),.aa (.val (.int .i64 up))]:=by simp[mW,hq]
    rw[e5]at h2
    match j',h1,h2 with
    |0,h1,h2=>cases h1;cases h2;exact .aP (.aa _)
    |1,h1,h2=>cases h1;cases h2;exact .aP (.row 1 1 0 none)
    |2,h1,h2=>cases h1;cases h2;exact .aP (.aa _)
    |3,h1,h2=>cases h1;cases h2;exact .aP (.aa _)
    |4,h1,h2=>cases h1;cases h2;exact .aP (.aa _)
    |5,h1,h2=>cases h1;cases h2;exact .eu (dm.d6 (Z:=fun k=>bs [4] k=true) rfl (by rw[<-aT];rfl) 0 none)
    |6,h1,h2=>cases h1;cases h2;exact .aP (.aa _)
    |7,h1,h2=>cases h1;cases h2;exact .aP (.aa _)
    |8,h1,h2=>cases h1;cases h2;exact .aP (.aa _)
    |n+9,h1,h2=>simp at h1
 |1,_=>exact⟨rfl,rfl⟩
theorem KM{σ:Nat->Nat}(Q:Nat)(o:Obj):(mW Q o).map (CC.aP σ)=mW (σ Q) o:=by simp[mW,CC.aP]
theorem Np(o:Obj)(hf:o.mU){m:Mem}{K:CV->Mem->Prop}(h:K (.rv (.one (.row m.length 9 0 none))) (m++ [.row 9 [mW (m.length+1) o],.row 1 (af o.data)])):ar Tryz.prog 91 [cq [o]] m K:=by
 refine bv [] m.length rfl rfl rfl rfl rfl (fun i b' hi=>by simp at hi) (aW Tryz.func91 l91 (HB o hf)) (fun r m1 hr=>?_)
 obtain⟨rfl,rfl⟩:=hr;refine⟨XL _,?_⟩;show K (.rv (.one (.row (m.length+(0-0)) 9 0 none))) (gX m [.row 9 [(mW 1 o).map (CC.aP (sg [] m.length))],.row 1 ((af o.data).map (fun cs=>cs.map (CC.aP (sg [] m.length))))])
 rw[KM,gm,cg];exact h
def c50:LF:= ⟨43,[.tmp 6,.tmp 7],(.seq (.ai [qu 3 (.box 0),qu 6 (.aD qe),qu 7 (.aD (qi 0))]) (.seq (.block 0 (.seq (.ai [qf 10 0 3,ql 11 10,qu 12 (.aE .eql 11 (qi 2)),qm 9 12]) (.cond 9 (.seq (.ai [qu 6 (.aD qe),qu 7 (.aD (qi 12))]) .ret) (.seq (.ai [qf 14 0 3,ql 15 14,qu 16 (.aE .neq 15 (qi 1)),qm 13 16]) (.cond 13 (.seq (.ai [qu 6 (.aD qe),qu 7 (.aD (qi 8))]) .ret) (.seq (.ai [qm 18 1,qu 19 (.aE .lss 18 (qi 0)),qm 20 19,qg 21 (.aD 2) 20 false,qg 22 (.aE .lss 21 (qi 0)) 20 false,qu 23 (.pick 20 (qb true) 22),qm 17 23]) (.cond 17 (.seq (.ai [qu 6 (.aD qe),qu 7 (.aD (qi 3))]) .ret) .skip))))))) (.seq (.ai [qm 24 1,qf 25 1 3,ql 26 25,qu 27 (.len 1 26),qu 28 (.iS false [24,27]),qm 8 28]) (.seq (.ai [qf 29 1 3,ql 30 29,qm 31 8,qm 32 8,qm 33 2,qf 34 1 3,ql 35 34,qu 36 (.len 1 35),qm 37 8,qu 38 (.aE .sub 36 37),qu 39 (.iS false [33,38]),qu 40 (.aE .add 32 39),qu 41 (.m6 1 30 (some 31) (some 40) none),qu 42 (qc 90 [41]),qm 6 42,qu 7 (.aD (qi 0))]) .ret))))⟩
theorem l50:bq Tryz.prog Tryz.f50=some c50:=by kernel_rfl
def dJ(a b:Nat):Nat:=if b<a then b else a
theorem qn(a b:Nat):(if(b:Int)<(a:Int)then(b:Int)else(a:Int))=((dJ a b:Nat):Int):=by unfold dJ;split<;>split<;>omega
theorem mj(a b:Nat):dJ a b<=a/\dJ a b<=b:=by unfold dJ;split<;>omega
def wx(d:List (List Dt))(cU n:Nat):List (List Dt):=(d.take (dJ cU d.length+dJ n (d.length-dJ cU d.length))).drop (dJ cU d.length)
def e8(ah:Int)(d:List (List Dt))(cU n:Int):List (List Dt)×Int:=
 if ah=2 then([],12)else if ah≠1 then([],8)else if cU<0\/n<0 then([],3)else(wx d cU.toNat n.toNat,0)
def XF(d:List (List Dt)):RV:= .one (.aa (.sl 1 d))
end Go.Proofs.YthagjdhjmamakaaGreatDoor
