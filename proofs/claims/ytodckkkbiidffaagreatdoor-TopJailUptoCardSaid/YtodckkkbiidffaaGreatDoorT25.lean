/- Part 25 of 39: what the law stands on. -/
import Derived.Test.YtodckkkbiidffaaGreatDoorT16
import Derived.Test.YtodckkkbiidffaaGreatDoorT17
import Derived.Test.YtodckkkbiidffaaGreatDoorT18
import Derived.Test.YtodckkkbiidffaaGreatDoorT24
import Derived.RangeFuncNested
import Derived.RangeFuncCalls
import Derived.Shelf.Abstract
import Derived.WalkKit
import Derived.OwnWalkIn
import Derived.TacticsInMore
import Derived.LoopNIn
import Derived.LoopIn
set_option linter.unusedVariables false
set_option linter.unusedSimpArgs false
set_option linter.unnecessarySimpa false
set_option maxRecDepth 100000
set_option maxHeartbeats 64000000
namespace Go.Proofs.YtodckkkbiidffaaGreatDoor
open Go.AM Go.ChangeShapes Go.WideShapes Go.ChangeAt Go.RowKit
namespace bp
attribute [local go_sem] Oper.semAt_some
def xZ(w:World)(b o:Nat):Nat:=match w.cell? ⟨b,o,none⟩with|some (.string s)=>s.size|_=>0
theorem uf{w:World}{b o:Nat}{s:ByteArray}(h:w.cell? ⟨b,o,none⟩=some (.string s)):xZ w b o=s.size:=by simp[xZ,h]
@[simp] theorem nA(r:List UInt8):(b7 r).data.toList=r:=rfl
@[simp] theorem lq(r:List UInt8):(b7 r).size=r.length:=by simp[b7,ByteArray.size]
theorem pI(r:List UInt8)(a b:Nat)(hb:b<=r.length):(b7 r).extract a b=b7 ((r.take b).drop a):=by apply ByteArray.ext;simp[b7,ByteArray.data_extract,List.drop_take]
def V4(F:Fence)(n:Nat)(P:Program)(l:Nat)(args:Array Value)(W:World)(R:Ending->World->Prop):Prop:=
 ∃fn tmps assign body,(Instr.yield l args).run P W= .ok (.round l fn tmps assign body) W/\RoundIn F n P l fn tmps assign body W R
theorem CB(F:Fence)(n:Nat)(h49:F.fn 147)(h51:F.fn 149)(hro:F.round=none)(hn:3<=n)(s:ByteArray)(c:UInt8)(l b1 o1 b2 o2 b3 o3:Nat)(W:World)(J:Nat->World->Prop)(Jx:World->Prop)(n12:b1≠b2)(n13:b1≠b3)(n23:b2≠b3)(hix:∀(s:ByteArray)(w:World),CallsIn F (n-1) Tryz.prog 149 #[.string s,.string ⟨#[c]⟩] w fun e w'=>e= .returned (.int .i64 (Lib.indexByte s.data.toList c))/\w'=w)(c1:W.cell? ⟨b1,o1,none⟩=some (.string ⟨#[c]⟩))(c2:W.cell? ⟨b2,o2,none⟩=some (.string s))(f2:W.frozen? ⟨b2,o2,none⟩=false)(c3:W.cell? ⟨b3,o3,none⟩=some (.int .i64 0))(hJ:∀k W v,J k W->J k (W.setCell ⟨b2,o2,none⟩ v))(hY:∀k y W,(fZ c s)[k]? =some y->J k W->V4 F (n-1) Tryz.prog l #[.string y] W fun e W'=>
   (e= .returned (.bool true)/\J (k+1) W'/\W'.heap[b1]? =W.heap[b1]? /\W'.heap[b2]? =W.heap[b2]? /\W'.heap[b3]? =W.heap[b3]?)\/(e= .returned (.bool false)/\Jx W'))(h0:J 0 W)(hsz:(s.size:Int)<4611686018427387904):
  CallsIn F n Tryz.prog 147 #[.func (.yield l) #[] #[],.pointer (some ⟨b1,o1,none⟩),.pointer (some ⟨b2,o2,none⟩),.pointer (some ⟨b3,o3,none⟩)] W fun e W'=>
   (∃v,e= .returned v)/\(J (fZ c s).length W'\/Jx W'):=by
 have h1:1<=n:=om;refine callsIn_of_wp Tryz.func147 rfl h49 ?_ hro;simp only[Tryz.ntmps147,List.size_toArray,Wo,aaq,Nat.reduceAdd,Nat.reduceSub,Array.replicate_succ,Array.replicate_zero,List.push_toArray,List.append_toArray,aca,ab5]
 gi_wp2
 gi_loopw [] (fun wr=>∃(k:Nat)(r:List UInt8),wr.cell? ⟨b2,o2,none⟩=some (.string (b7 r))/\wr.frozen? ⟨b2,o2,none⟩=false/\wr.cell? ⟨b1,o1,none⟩=some (.string ⟨#[c]⟩)/\
   wr.cell? ⟨b3,o3,none⟩=some (.int .i64 0)/\(fZ c s).drop k=(fK c r).map b7/\J k wr/\r.length<=s.size) (fun wr=>xZ wr b2 o2)
 case atStart=>
  exact⟨0,s.data.toList,by rw[c2];rfl,f2,c1,c3,rfl,h0,by show s.data.toList.length<=s.data.size;rw[aaZ];exact Pq _⟩
 case round=>
  obtain⟨k,r,d2,g2,d1,d3,hcut,hj,hlen⟩:=hrel;rcases Int.lt_or_le (Lib.indexByte r c) 0 with hneg|hpos
  .have hm1:Lib.indexByte r c= -1:=by have:=Lib.indexByte_ge r c;omega
   have hix:=(hix (b7 r) wr).mono (R':=fun e w'=>e= .returned (.int .i64 (-1))/\w'=wr) fun e w'⟨h1,h2⟩=>⟨by rw[h1,nA,hm1],h2⟩
   have hk:(fZ c s)[k]? =some (b7 r):=by
    have:=congrArg (fun l=>l[0]?) hcut
    simp only[aat,qX hm1]at this;simpa using this
   have hlen2:(fZ c s).length=k+1:=by have h2:=congrArg List.length hcut;have h3:=(Gf.1 hk).1;rw[qX hm1,aaC]at h2;simp only[aar,abE,Wo,aaq]at h2;omega
   obtain⟨fn,tmps,assign,body,hy,hR⟩:=hY k _ wr hk hj;have hfin:∀W,J (k+1) W->J (fZ c s).length W:=fun W h=>hlen2▸h
   clear hY hJ hcut hneg hm1 hk c1 c2 f2 c3 h0 hlen2
   gi_wp2_with (gi_at_call 149;refine hix.mono ?_;rintro e w' ⟨rfl,rfl⟩)
   refine hR.mono ?_;rintro e W' (⟨rfl,hJ',_⟩|⟨rfl,hx⟩)
   .gi_wp2
    go_end0
    exact⟨⟨_,rfl⟩,.inl (hfin _ hJ')⟩
   .gi_wp2
    go_end0
    exact⟨⟨_,rfl⟩,.inr hx⟩
  .obtain⟨i,hi⟩:=Int.eq_ofNat_of_zero_le hpos;obtain⟨hlt,hcut2⟩:=wA hi;have hk:(fZ c s)[k]? =some (b7 (r.take i)):=by
    have:=congrArg (fun l=>l[0]?) hcut
    simp only[aat,hcut2]at this;simpa using this
   have hnext:(fZ c s).drop (k+1)=(fK c (r.drop (i+1))).map b7:=by have:=congrArg List.tail hcut;rw[hcut2,List.tail_drop]at this;simpa using this
   obtain⟨fn,tmps,assign,body,hy,hR⟩:=hY k _ wr hk hj;obtain⟨z,hz⟩:∃z:Int,z=(i:Int):=⟨_,rfl⟩;have hix:=(hix (b7 r) wr).mono (R':=fun e w'=>e= .returned (.int .i64 z)/\w'=wr) fun e w'⟨h1,h2⟩=>⟨by rw[h1,nA,hi,hz],h2⟩
   have Hnext:Hid ((fZ c s).drop (k+1)=(fK c (r.drop (i+1))).map b7):=hnext;have HJ:Hid (∀k W v,J k W->J k (W.setCell ⟨b2,o2,none⟩ v)):=hJ;have Hz:Hid (z=(i:Int)):=hz;have z0:0<=z:=om;have z0':decide (z<0)=false:=decide_eq_false om;have z1:z<r.length:=om;have hw1:wrap64 z=z:=by unfold wrap64;omega
   have hw2:wrap64 (z+1)=z+1:=by unfold wrap64;omega
   have hs1:(0<=z/\z<=(r.length:Int))=True:=by simp;omega
   have hs2:(0<=z+1/\z+1<=(r.length:Int))=True:=by simp;omega
   have hs3:z<=(r.length:Int):=om;have hs4:0<=z+1:=om;have hs5:z+1<=(r.length:Int):=om;have he1:b7 (r.take i)=(b7 r).extract 0 z.toNat:=by rw[pI r _ _ om,hz];simp
   have he2:(b7 r).extract (z+1).toNat r.length=b7 (r.drop (i+1)):=by rw[pI r _ _ (Pq _),aal,hz];rfl
   have Hend:Hid (i<r.length/\r.length<=s.size/\(b7 r).extract (z+1).toNat r.length=b7 (r.drop (i+1))):=⟨hlt,hlen,he2⟩;rw[he1]at hy;clear hJ hY hcut hcut2 hi hk c1 c2 f2 c3 h0 hpos hnext hz hsz he1 he2 hlt hlen
   gi_wp2_with (first
    |(gi_at_call 149;refine hix.mono ?_;rintro e w' ⟨rfl,rfl⟩)
    |(refine wpIn_cond_false (by show Value.bool (decide (z<0))=Value.bool false;rw[z0']) ?_))
   refine hR.mono ?_;rintro e W' (⟨rfl,hJ',e1,e2,e3⟩|⟨rfl,hx⟩)
   .have q1:W'.cell? ⟨b1,o1,none⟩=some (.string ⟨#[c]⟩):=(World.cell?_of_block (a:=⟨b1,o1,none⟩) e1).trans d1;have q2:W'.cell? ⟨b2,o2,none⟩=some (.string (b7 r)):=(World.cell?_of_block (a:=⟨b2,o2,none⟩) e2).trans d2;have q3:W'.cell? ⟨b3,o3,none⟩=some (.int .i64 0):=(World.cell?_of_block (a:=⟨b3,o3,none⟩) e3).trans d3;have q4:W'.frozen? ⟨b2,o2,none⟩=false:=by rw[<-g2];simp only[World.frozen?,e2]
    gi_wp2
    obtain⟨hlt,hlen,he2⟩:=Hend.out;have hq:(W'.cell? ⟨b2,o2,none⟩).isSome=true:=by rw[q2];rfl
    have hn2:=World.cell?_setCell_same' W' ⟨b2,o2,none⟩ (.string ((b7 r).extract (z+1).toNat r.length)) hq;rw[he2]at hn2⊢;refine⟨⟨k+1,r.drop (i+1),hn2,by rw[World.frozen?_setCell];exact q4,?_,?_,Hnext.out,HJ.out _ _ _ hJ',by simp;omega⟩,?_⟩
    .exact(World.cell?_setCell_other _ _ _ _ fun e=>n12 (congrArg Addr.block e).symm).trans q1
    .exact(World.cell?_setCell_other _ _ _ _ fun e=>n23 (congrArg Addr.block e)).trans q3
    .rw[uf hn2,uf d2,lq,lq,aaC];omega
   .gi_wp2
    refine bodyPost_ret (results_none rfl _ _ _) rfl ?_;exact⟨⟨_,rfl⟩,.inr hx⟩
theorem oB(W:World)(a:Addr)(v:Value){b:Nat}(h:b≠a.block):(W.setCell a v).heap[b]? =W.heap[b]? :=by simp only[World.setCell,aaG];rw[if_neg (fun e=>h e.symm)]
theorem x4{n:Nat}{P:Program}{l:Nat}{f:FuncId}{tmps:Array Value}{assign body:Code}{w:World}{R:Ending->World->Prop}(h:RoundIn Fence.wide 0 P l f tmps assign body w R):
  RoundIn Fence.wide n P l f tmps assign body w R:=⟨h.1,fun c cs _=>h.2 c cs (room_wide _)⟩
theorem Gg(s:ByteArray)(c:UInt8)(hsz:(s.size:Int)<4611686018427387904):QG Tryz.prog 147 [.string ⟨#[c]⟩,.string s,.int .i64 0] (fZ c s):=by
 refine⟨⟨Tryz.f147,Tryz.func147,rfl,by decide⟩,?_⟩
 intro l az W J Jx hlen hnd hcell hJ hJx hY h0
 match az,hlen with
 | [(b1,o1),(b2,o2),(b3,o3)],_=>
 obtain⟨c1,f1⟩:=hcell 0 _ _ rfl rfl;obtain⟨c2,f2⟩:=hcell 1 _ _ rfl rfl;obtain⟨c3,f3⟩:=hcell 2 _ _ rfl rfl;simp only[aar,abE,abh,aaf,abf,or_false,not_or,List.nodup_nil]at hnd;obtain⟨⟨n12,n13⟩,n23,_⟩:=hnd;show CallsIn Fence.wide 0 Tryz.prog 147 #[.func (.yield l) #[] #[],.pointer (some ⟨b1,o1,none⟩),.pointer (some ⟨b2,o2,none⟩),.pointer (some ⟨b3,o3,none⟩)] W _;refine callsIn_wide.2 ((callsIn_wide (n:=5)).1 ?_);refine CB Fence.wide 5 trivial trivial rfl om s c l b1 o1 b2 o2 b3 o3 W J Jx n12 n13 n23 (fun s w=>callsIn_wide.2 (Gd s c w)) c1 c2 f2 c3 ?_ ?_ h0 hsz
 .intro k W v hj;exact hJ k W _ hj aI (fun b _ hb=>oB _ _ _ (hb (b2,o2) aI)) rfl rfl rfl
 .intro k y W hk hj;obtain⟨fn,tmps,assign,body,hy,hR⟩:=hY k y W hk hj;refine⟨fn,tmps,assign,body,hy,(x4 hR).mono fun e W' h=>?_⟩
  rcases h with⟨he,h1,h2,h3⟩|⟨he,h1⟩
  .exact .inl ⟨he,h1,h3 (b1,o1) aI,h3 (b2,o2) aI,h3 (b3,o3) aI⟩
  .exact .inr ⟨he,h1⟩
end bp
def c106:LF:= ⟨52,[.tmp 2],(.seq (.ai [qu 2 (.aF (qb false))]) (.seq (.seq (.ai [qm 5 0,qu 6 (.len 0 5),qu 7 (.aH .lss 6 (qi 1)),qm 8 7,qg 9 (.aF 0) 8 false,qg 10 (.len 0 9) 8 false,qg 11 (.aH .gtr 10 (qi 12)) 8 false,qu 12 (.pick 8 (qb true) 11),qm 13 12,qg 14 (.aF 0) 13 false,qg 15 (.aH .eql 14 (.c (.rv (.one (.aa (.val (.string ⟨#[46]⟩))))))) 13 false,qu 16 (.pick 13 (qb true) 15),qm 17 16,qg 18 (.aF 0) 17 false,qg 19 (.aH .eql 18 (.c (.rv (.one (.aa (.val (.string ⟨#[46,46]⟩))))))) 17 false,qu 20 (.pick 17 (qb true) 19)]) (.cond 20 (.seq (.ai [qu 2 (.aF (qb false))]) .ret) .skip)) (.seq (.seq (.ai [qm 21 0,qu 22 (.len 0 21),qu 23 (.aF (qi 0))]) (.block 0 (.loop (.seq (.ai [qu 24 (.aH .lss 23 22)]) (.seq (.cond 24 .skip (.exit 0)) (.seq (.block 1 (.seq (.ai [qm 25 23,qm 3 25]) (.seq (.ai [qm 26 0,qm 27 3,qu 28 (.yT 26 27),qm 4 28]) (.seq (.ai [qm 29 4,qu 30 (.aH .lss 29 (.c (.rv (.one (.aa (.val (.int .u8 (97)))))))),qm 31 30,qg 32 (.aF 4) 31 false,qg 33 (.aH .gtr 32 (.c (.rv (.one (.aa (.val (.int .u8 (122)))))))) 31 false,qu 34 (.pick 31 (qb true) 33),qm 35 34,qg 36 (.aF 4) 35 true,qg 37 (.aH .lss 36 (.c (.rv (.one (.aa (.val (.int .u8 (48)))))))) 35 true,qg 38 (.aF 37) 35 true,qg 39 (.aF 4) 38 false,qg 40 (.aH .gtr 39 (.c (.rv (.one (.aa (.val (.int .u8 (57)))))))) 38 false,qg 41 (.pick 38 (qb true) 40) 35 true,qu 42 (.pick 35 41 (qb false)),qm 43 42,qg 44 (.aF 4) 43 true,qg 45 (.aH .neq 44 (.c (.rv (.one (.aa (.val (.int .u8 (46)))))))) 43 true,qu 46 (.pick 43 45 (qb false)),qm 47 46,qg 48 (.aF 4) 47 true,qg 49 (.aH .neq 48 (.c (.rv (.one (.aa (.val (.int .u8 (95)))))))) 47 true,qu 50 (.pick 47 49 (qb false))]) (.cond 50 (.seq (.ai [qu 2 (.aF (qb false))]) .ret) .skip))))) (.ai [qu 51 (.aH .add 23 (qi 1)),qm 23 51]))))))) (.seq (.ai [qu 2 (.aF (qb true))]) .ret))))⟩
namespace bp
abbrev cQ:=List UInt8
def vT(t:cQ):CV:=dh (b7 t)
theorem x5(s:ByteArray):∃t:cQ,s=b7 t:=⟨s.data.toList,rfl⟩
theorem sa(t:cQ):(b7 t).toList=t:=ByteArray.toList_mk t
theorem jG{a b:cQ}{A B:Prop}(ha:a=b->A)(hb:a≠b->B): @Bool.rec (fun _=>Prop) B A ((b7 a).toList==(b7 b).toList):=by
 rw[sa,sa];cases h:(a==b)
 .exact hb (by simpa using h)
 .exact ha (by simpa using h)
def Jn(n:Nat):Bool:=(decide (97<=n)&&decide (n<=122))||(decide (48<=n)&&decide (n<=57))||decide (n=46)||decide (n=95)
def ff(t:cQ):Bool:=decide (1<=t.length)&&decide (t.length<=12)&&decide (t≠[46])&&decide (t≠[46,46])&&t.all fun c=>Jn c.toNat
theorem CD{t:cQ}{k:Nat}(hk:k<t.length)(h:Jn t[k].toNat=false):ff t=false:=by
 have:(t.all fun c=>Jn c.toNat)=false:=by
  rw[List.all_eq_false];exact⟨t[k],Wl hk,by simp[h]⟩
 simp[ff,this]
theorem CE{t:cQ}(h1:1<=t.length)(h2:t.length<=12)(h3:t≠[46])(h4:t≠[46,46])(h:∀k(hk:k<t.length),Jn t[k].toNat=true):ff t=true:=by
 have:(t.all fun c=>Jn c.toNat)=true:=by rw[aau];intro c hc;obtain⟨k,hk,rfl⟩:=List.mem_iff_getElem.1 hc;exact h k hk
 simp[ff,this,h1,h2,h3,h4]
theorem Sr{n:Nat}(h1:¬(97<=n/\n<=122))(h2:¬(48<=n/\n<=57))(h3:n≠46)(h4:n≠95):Jn n=false:=by
 have a:¬(97<=n)\/¬(n<=122):=om;have b:¬(48<=n)\/¬(n<=57):=om;unfold Jn;rcases a with a|a<;>rcases b with b|b<;>simp[a,b,h3,h4]
theorem Ss{n:Nat}(h:(97<=n/\n<=122)\/(48<=n/\n<=57)\/n=46\/n=95):Jn n=true:=by
 unfold Jn;rcases h with⟨a,b⟩|⟨a,b⟩|h|h<;>simp_all
theorem l106:bs Tryz.prog Tryz.f106=some c106:=by kernel_rfl
theorem V6{t:cQ}{k:Nat}(hk:k<t.length):dg (b7 t).data.toList (k:Nat)=some t[k]:=by rw[bI,nA,sA hk]
theorem fx(t:cQ):(((b7 t).size:Nat):Int)=t.length:=by rw[lq]
theorem qY(t:cQ):body Tryz.prog c106 [vT t] [] (fun r m=>r=ay (ff t)):=by
 refine aJ (fun h=>?_) (fun h=>?_)
 .rw[fx]at h;have:ff t=false:=by simp[ff];omega
  rw[this];rfl
 rw[fx]at h;refine aJ (fun h2=>?_) (fun h2=>?_)
 .rw[fx]at h2;have:ff t=false:=by simp[ff];omega
  rw[this];rfl
 rw[fx]at h2;refine jG (b:=[46]) (fun h3=>?_) (fun h3=>?_)
 .subst h3;rfl
 refine jG (b:=[46,46]) (fun h4=>?_) (fun h4=>?_)
 .subst h4;rfl
 refine ba (fun k=>k<=t.length/\∀j(hj:j<t.length),j<k->Jn t[j].toNat=true) [0] (fun k=>[(22,an .i64 (t.length:Nat)),(23,an .i64 (k:Nat))]) (fun _=>[]) (fun k=>t.length-k) 0 ⟨Wi _,fun j _ h=>absurd h (aah _)⟩ ?_ (fun k hk=>?_)
 .refine View.o 0 [] [] ?_ (.nil _);repeat(first|exact .nil|refine .ar ?_|refine .eq rfl ?_|refine .put (.aQ (by rw[fx];rfl)) ?_)
 obtain⟨hk,fm⟩:k<=t.length/\∀j(hj:j<t.length),j<k->Jn t[j].toNat=true:=hk;refine aJ (fun h5=>?_) (fun h5=>?_)
 .have aE:k<t.length:=by have h5:(k:Int)<(t.length:Int):=h5;omega
  refine ag (V6 aE) ?_;repeat' first|refine aJ (fun _=>?_) (fun _=>?_)|refine bt (fun _=>?_) (fun _=>?_)
  all_goals first
   |(show ay false=ay (ff t)
     rw[CD aE (Sr om om om om)])
   |(refine⟨k+1,⟨aE,fun j hj hjk=>?_⟩,(show t.length-(k+1)<t.length-k by omega),View.o 0 [] [] ?_ (.nil _)⟩
     .rcases Wj j k with h|h
      .exact fm j hj h
      .have:j=k:=om;subst this;exact Ss om
     .repeat(first|exact .nil|refine .ar ?_|refine .put (.aQ (aL om).symm) ?_|refine .eq rfl ?_))
 .show ay true=ay (ff t);have h5:¬(k:Int)<(t.length:Int):=h5;rw[CE om om h3 h4 fun j hj=>fm j hj om]
theorem x6(t:cQ){m:Mem}{K:CV->Mem->Prop}(h:K (ay (ff t)) m):aq Tryz.prog 106 [vT t] m K:=
 bu Tryz.func106 l106 rfl (V5 rfl) (qY t) rfl rfl h
end bp
def c66:LF:= ⟨37,[.cell false 1 2,.cell false 1 3,.cell false 1 4],(.seq (.ai [qu 2 (.alloc [.aB]),qu 3 (.alloc [(.aa (.val (.bool false)))]),qu 4 (.alloc [(qd 0)])]) (.seq (.seq (.ai [qm 7 0,qu 8 (.aH .eql 7 (.c (.rv (.one (.aa (.val (.string ⟨#[]⟩)))))))]) (.cond 8 (.seq (.ai [qw (.store 1 2 qe),qw (.store 1 3 (qb false)),qw (.store 1 4 (qi 2))]) .ret) .skip)) (.seq (.seq (.ai [qm 9 0,qu 10 (.len 0 9),qu 11 (.aH .gtr 10 (qi 60))]) (.cond 11 (.seq (.ai [qw (.store 1 2 qe),qw (.store 1 3 (qb false)),qw (.store 1 4 (qi 4))]) .ret) .skip)) (.seq (.ai [qu 5 (.alloc [.aB])]) (.seq (.seq (.ai [qm 12 0,qu 13 (qc 105 [12,(.c (.rv (.one (.aa (.val (.string ⟨#[47]⟩))))))])]) (.block 0 (.u6 13 14 (.ai [qm 6 14]) (.block 1 (.block 2 (.seq (.ai [qm 16 6,qu 17 (.aH .eql 16 (.c (.rv (.one (.aa (.val (.string ⟨#[]⟩))))))),qm 18 17,qg 19 (.aF 6) 18 false,qg 20 (.aH .eql 19 (.c (.rv (.one (.aa (.val (.string ⟨#[46]⟩))))))) 18 false,qu 21 (.pick 18 (qb true) 20),qm 15 21]) (.cond 15 .skip (.seq (.ai [qm 23 6,qu 24 (.aH .eql 23 (.c (.rv (.one (.aa (.val (.string ⟨#[46,46]⟩))))))),qm 25 24,qg 26 (.aF 6) 25 false,qg 27 (qc 106 [26]) 25 false,qu 28 (.pick 25 (qb true) 27),qm 22 28]) (.cond 22 (.ai [ql 29 5,qm 30 6,qu 31 (.l5 1 [(.aa (.val (.string ⟨#[]⟩)))] 1 [(0,30)]),qu 32 (.mE 1 16 29 31),qw (.store 1 5 32)]) (.seq (.ai [qw (.store 1 2 qe),qw (.store 1 3 (qb false)),qw (.store 1 4 (qi 7))]) .ret)))))))))) (.seq (.bU [ql 33 5,qm 34 0,qu 35 (.yT 34 (qi 0)),qu 36 (.aH .eql 35 (.c (.rv (.one (.aa (.val (.int .u8 (47)))))))),qw (.store 1 2 33),qw (.store 1 3 36),qw (.store 1 4 (qi 0))] [(.cons 0 none (.cons 1 none (.cons 2 none (.cons 3 none (.cons 4 (some []) (.cons 5 (some []) (.cons 6 (some []) .nil)))))))]) .ret))))))⟩
def c105:LF:= ⟨8,[.tmp 4],(.seq (.ai [qu 4 (.aF (.c (.rv (.one (.aa (.val .nilFunc))))))]) (.seq (.ai [qm 5 0,qm 6 1,qu 7 (qc 131 [5,6,(qi 0)]),qm 4 7]) .ret))⟩
def c131:LF:= ⟨8,[.tmp 6],(.seq (.ai [qu 3 (.box 0),qu 4 (.box 1),qu 5 (.box 2),qu 6 (.aF (.c (.rv (.one (.aa (.val .nilFunc))))))]) (.seq (.ai [qu 7 (.fn 147 [4,3,5]),qm 6 7]) .ret))⟩
namespace bp
theorem l131:bs Tryz.prog Tryz.f131=some c131:=by kernel_rfl
theorem l105:bs Tryz.prog Tryz.f105=some c105:=by kernel_rfl
def Su(s:ByteArray):Bk:= .var [.aa (.val (.string s))]
def Ya(s sep:ByteArray)(b0 b1 b2 b3:Bk):Mem:=[b0,b1,b2,b3,Su s,Su sep,.var [.aa (.val (.int .i64 0))]]
theorem V7(s sep:ByteArray){b0 b1 b2 b3:Bk}{K:CV->Mem->Prop}(h:K (.rv (.one (.fn 147 [5,4,6]))) (Ya s sep b0 b1 b2 b3)):aq Tryz.prog 131 [dh s,dh sep,an .i64 0] [b0,b1,b2,b3] K:=
 aX Tryz.func131 l131 h
theorem V8(s sep:ByteArray){b0 b1 b2 b3:Bk}{K:CV->Mem->Prop}(h:K (.rv (.one (.fn 147 [5,4,6]))) (Ya s sep b0 b1 b2 b3)):aq Tryz.prog 105 [dh s,dh sep] [b0,b1,b2,b3] K:=by refine aX Tryz.func105 l105 ?_;exact V7 s sep h
theorem ug(c:UInt8):∀t:cQ,(fK c t).length<=t.length+1
 | []=>by simp[fK]
 |x::r=>by
  have ih:=ug c r;simp only[fK];split
  .simp;exact ih
  .split
   .simp
   .rename_i h;rw[h]at ih;simp at ih⊢;omega
theorem cN(a b:List (List Dt)):af (a++b)=af a++af b:=by simp[af]
theorem L8(c:UInt8)(r:cQ):decide ((c::r)[0]? =some 47)=((c.toNat:Int)==47):=by
 by_cases h:c=47
 .subst h;rfl
 .have h2:(c.toNat:Int)≠47:=by
   intro e;have e2:c.toNat=(47:UInt8).toNat:=by show c.toNat=47;omega
   exact h (UInt8.toNat_inj.1 e2)
  simp[h,h2]
theorem l66:bs Tryz.prog Tryz.f66=some c66:=by kernel_rfl
def tD(t:cQ):List Dt:=[.val (.string (b7 t))]
def Uj(l:List cQ):Dt:= .sl 1 (l.map tD)
def Z6(l:List cQ):CV:= .rv (.one (.aa (Uj l)))
def pJ(w:cQ):Bool:= !(decide (w=[])||decide (w=[46]))
def pK(w:cQ):Bool:=decide (w=[])||decide (w=[46])||decide (w=[46,46])||ff w
def x7(t:cQ):List cQ:=(fK 47 t).filter pJ
def cm(t:cQ):List cQ×Bool×Int:=
 if t=[]then([],false,2)else if 60<t.length then([],false,4)else if(fK 47 t).all pK then(x7 t,decide (t[0]? =some 47),0)else([],false,7)
def Pd(p:List cQ×Bool×Int):CV:= .bF [.one (.aa (Uj p.1)),.one (.aa (.val (.bool p.2.1))),.one (.aa (.val (.int .i64 p.2.2)))]
def pt(id:Nat):CV:= .rv (.one (.ptr id 0))
def L9(t:cQ):List CV:=vT t:: .ar::pt 0::pt 1::pt 2::pt 3::fC 31 .ar
def Pe:List cQ->Mem
 | []=>[.var [.aB],.var [.aa (.val (.bool false))],.var [.aa (.val (.int .i64 0))],.var [.aB]]
 |x::r=>[.var [.aB],.var [.aa (.val (.bool false))],.var [.aa (.val (.int .i64 0))],.var [.row 4 1 0 none],.row 1 (af ((x::r).map tD))]
theorem CF{c:UInt8}{t:cQ}{k:Nat}{y:ByteArray}(h:(fZ c (b7 t))[k]? =some y):∃w,(fK c t)[k]? =some w/\y=b7 w:=by
 simp only[fZ,nA,NO]at h;cases hc:(fK c t)[k]? with
 |none=>rw[hc]at h;cases h
 |some w=>rw[hc]at h;cases h;exact⟨w,rfl,rfl⟩
theorem kK{m:Mem}{c:CC}{l:List cQ}{b:Bool}{e:Int}(h:dU m c (.aa (Uj l))):cw m (.bF [.one c,.one (.aa (.val (.bool b))),.one (.aa (.val (.int .i64 e)))]) (Pd (l,b,e)):=by
 refine .bF rfl fun i r r' h1 h2=>?_
 match i with
 |0=>cases h1;cases h2;exact .one h
 |1=>cases h1;cases h2;exact .one (.aa _)
 |2=>cases h1;cases h2;exact .one (.aa _)
 |n+3=>simp at h1
theorem CG(t:cQ):body Tryz.prog c66 [vT t] [] (fun r m=>cw m r (Pd (cm t))):=by
 refine jG (b:=[]) (fun h=>?_) (fun h0=>?_)
 .subst h;exact kK (.aB 1)
 refine aJ (fun h=>?_) (fun h1=>?_)
 .rw[fx]at h;have:cm t=([],false,4):=by rw[cm,if_neg h0,if_pos om]
  rw[this];exact kK (.aB 1)
 rw[fx]at h1;refine V8 (b7 t) ⟨#[47]⟩ ?_;refine⟨147,[5,4,6],[.string ⟨#[47]⟩,.string (b7 t),.int .i64 0],fZ 47 (b7 t),List cQ,fun k out=>out=((fK 47 t).take k).filter pJ/\((fK 47 t).take k).all pK=true,fun out=>⟨L9 t,Pe out⟩,rfl,
  ⟨⟨rfl,rfl⟩,⟨rfl,rfl⟩,⟨rfl,rfl⟩,trivial⟩,⟨by decide,aI⟩,Gg (b7 t) 47 (by rw[fx];omega),⟨[],⟨aI,aI⟩,?_⟩,?_,?_⟩
 .refine View.o1 7 [0,1,2,3] [] ?_
  .repeat(first|exact .nil _|refine .put (by simp[bz]) rfl (.eq rfl aI) ?_)
 .intro k y out hk hJ;obtain⟨w,hw,rfl⟩:=CF hk;obtain⟨ho,hg⟩:=hJ;have NF:(fK 47 t).take (k+1)=(fK 47 t).take k++ [w]:=by rw[aaM,hw];rfl
  have skip:w=[]\/w=[46]->out=((fK 47 t).take (k+1)).filter pJ/\((fK 47 t).take (k+1)).all pK=true:=by
   intro h;rw[NF,ab0,List.all_append,<-ho,hg];rcases h with rfl|rfl<;>simp[pJ,pK]
  have eQ:w≠[]->w≠[46]->(w=[46,46]\/ff w=true)->out++ [w]=((fK 47 t).take (k+1)).filter pJ/\((fK 47 t).take (k+1)).all pK=true:=by
   intro h1 h2 h3;rw[NF,ab0,List.all_append,<-ho,hg];rcases h3 with rfl|h3
   .simp[pJ,pK]
   .simp[pJ,pK,h1,h2,h3]
  have bad:w≠[]->w≠[46]->w≠[46,46]->ff w=false->cm t=([],false,7):=by
   intro h1 h2 h3 h4;have:(fK 47 t).all pK=false:=by
    rw[List.all_eq_false];exact⟨w,NQ hw,by simp[pK,h1,h2,h3,h4]⟩
   rw[cm,if_neg h0,if_neg om,this];rfl
  have hlen:out.length<=61:=by
   rw[ho];have h2:=abj pJ ((fK 47 t).take k);have h3:=ug 47 t;have h4:((fK 47 t).take k).length<=(fK 47 t).length:=by rw[Z3];omega
   omega
  clear ho hg NF hk;cases out with
  |nil=>
   have dv:View 0 ⟨L9 t,Pe []⟩ ⟨L9 t,Pe []⟩:=by
    refine View.o1 4 [0,1,2,3] [] ?_
    .repeat(first|exact .nil _|refine .put (by simp[bz]) rfl (.eq rfl aI) ?_)
   have iu:∀m,m=([.var [.aB],.var [.aa (.val (.bool false))],.var [.aa (.val (.int .i64 0))],.var [.row 5 1 0 none],.aO,.row 1 ([]++ [[.aa (.val (.string (b7 w)))]])]:Mem)->View 0 ⟨L9 t,m⟩ ⟨L9 t,Pe ([]++ [w])⟩:=by
    rintro m rfl;refine View.o1 6 [0,1,2,3,5] [] ?_
    .repeat(first|exact .nil _|refine .put (by simp[bz]) rfl (.eq rfl aI) ?_)
   refine jG (b:=[]) (fun e1=>?_) (fun e1=>?_)
   .exact⟨[],skip (.inl e1),dv⟩
   refine jG (b:=[46]) (fun e2=>?_) (fun e2=>?_)
   .exact⟨[],skip (.inr e2),dv⟩
   refine jG (b:=[46,46]) (fun e3=>?_) (fun e3=>?_)
   .exact⟨(show 1*16<=140737488355328 by omega),_,eQ e1 e2 (.inl e3),iu _ rfl⟩
   .refine x6 w ?_;refine aD (fun e4=>?_) (fun e4=>?_)
    .exact⟨(show 1*16<=140737488355328 by omega),_,eQ e1 e2 (.inr e4),iu _ rfl⟩
    .rw[bad e1 e2 e3 e4];exact kK (.aB 1)
  |cons x r=>
   have dv:View 0 ⟨L9 t,Pe (x::r)⟩ ⟨L9 t,Pe (x::r)⟩:=by
    refine View.o1 5 [0,1,2,3,4] [] ?_
    .refine .put (by simp[bz]) rfl (.eq rfl aI) (.put (by simp[bz]) rfl (.eq rfl aI) (.put (by simp[bz]) rfl (.eq rfl aI) (.put (by simp[bz]) rfl (.eq rfl aI) (.put (by simp[bz]) rfl (.bP rfl) (.nil _)))))
   have iu:∀m,m=([.var [.aB],.var [.aa (.val (.bool false))],.var [.aa (.val (.int .i64 0))],.var [.row 6 1 0 none],.aO,.aO,.row 1 (af ((x::r).map tD)++ [[.aa (.val (.string (b7 w)))]])]:Mem)->View 0 ⟨L9 t,m⟩ ⟨L9 t,Pe ((x::r)++ [w])⟩:=by
    rintro m rfl;refine View.o1 7 [0,1,2,3,6] [] ?_
    .refine .put (by simp[bz]) rfl (.eq rfl aI) (.put (by simp[bz]) rfl (.eq rfl aI) (.put (by simp[bz]) rfl (.eq rfl aI) (.put (by simp[bz]) rfl (.eq rfl aI) (.put (by simp[bz]) rfl (.bP ?_) (.nil _)))))
     show _=af (((x::r)++ [w]).map tD);rw[aav,cN];rfl
   have p0:((af ((x::r).map tD)).length+1)*16<=140737488355328:=by simp[af];simp at hlen;omega
   refine jG (b:=[]) (fun e1=>?_) (fun e1=>?_)
   .exact⟨_,skip (.inl e1),dv⟩
   refine jG (b:=[46]) (fun e2=>?_) (fun e2=>?_)
   .exact⟨_,skip (.inr e2),dv⟩
   refine jG (b:=[46,46]) (fun e3=>?_) (fun e3=>?_)
   .exact⟨p0,_,eQ e1 e2 (.inl e3),iu _ rfl⟩
   .refine x6 w ?_;refine aD (fun e4=>?_) (fun e4=>?_)
    .exact⟨p0,_,eQ e1 e2 (.inr e4),iu _ rfl⟩
    .rw[bad e1 e2 e3 e4];exact kK (.aB 1)
 .intro out hJ;obtain⟨ho,hg⟩:=hJ;have ix:(fZ 47 (b7 t)).length=(fK 47 t).length:=by simp[fZ]
  rw[ix,aal]at ho hg;have hs:cm t=(out,decide (t[0]? =some 47),0):=by rw[cm,if_neg h0,if_neg om,hg];simp[x7,ho]
  rw[hs];obtain⟨c,r,rfl⟩:∃c r,t=c::r:=by
   cases t with
   |nil=>exact absurd rfl h0
   |cons c r=>exact⟨c,r,rfl⟩
  have hc:decide ((c::r)[0]? =some 47)=((c.toNat:Int)==47):=L8 c r;cases out with
  |nil=>
   rw[hc];refine⟨trivial,trivial,trivial,?_⟩;exact kK (l:=[]) (c:= .aB) (.aB 1)
  |cons x r=>
   rw[hc];refine⟨trivial,trivial,trivial,?_⟩;exact kK (l:=x::r) (c:= .row 4 1 0 none) (dU.dX (ds:=(x::r).map tD) rfl 0 none)
theorem uh(t:cQ){m:Mem}{K:CV->Mem->Prop}(h:K (Pd (cm t)) m):aq Tryz.prog 66 [vT t] m K:=
 aY (aX Tryz.func66 l66 (CG t)) (by simp[vT,dh,CV.c6,CC.c6]) fun r m1 hf=>⟨_,hf,h⟩
end bp
namespace bp
theorem bb(l:List (List Dt)):(af l).length=l.length:=by simp[af]
end bp
def V9:Ob:=⟨0,[],[],⟨#[]⟩,0,ZG,0,0,0⟩
def iT(l:List Ob)(n:Nat):Ob:=(l[n]?).getD V9
theorem q0{l:List Ob}{n:Nat}(h:n<l.length):iT l n=l[n]:=by rw[iT,sA h];rfl
structure R4 where
 br:Int
 cD:Int
 name:bp.cQ
 f4:Int
def R4.no(e:Int):R4:=⟨0,0,[],e⟩
def gG(o:Ob):List NE:=o.aj.map ma
def jH(l:List Ob)(cT:Nat)(w:bp.cQ):Int:=dG (gG (iT l cT)) (bp.b7 w)
def x8(l:List Ob)(cT:Nat):Nat:=(iT l cT).up.toNat
def Ad(l:List Ob)(au:Nat)(ax follow:Bool)(rec:Nat->List bp.cQ->Nat->R4):List bp.cQ->Nat->R4
 | [],a=>⟨a,x8 l a,[],0⟩
 |w::rest,a=>
  if(iT l a).ah≠2 then R4.no 11
  else if w=[46,46]then(if ax=true/\a=au then R4.no 14 else Ad l au ax follow rec rest (x8 l a))
  else if jH l a w<0 then(if rest≠[]then R4.no 6 else⟨-1,a,w,0⟩)
  else if(iT l (jH l a w).toNat).ah=3/\(follow=true\/rest≠[])then rec a rest (jH l a w).toNat
  else if rest=[]then⟨jH l a w,a,w,0⟩
  else Ad l au ax follow rec rest (jH l a w).toNat
def Jo(l:List Ob)(k:Nat):bp.cQ:=(iT l k).target.data.toList
def K3(l:List Ob)(ax:Bool)(wk:List bp.cQ->Nat->R4)(a:Nat)(rest:List bp.cQ)(k:Nat):R4:=
 if(bp.cm (Jo l k)).2.2≠0 then R4.no (bp.cm (Jo l k)).2.2
 else if(bp.cm (Jo l k)).2.1=true/\ax=true then R4.no 14
 else wk ((bp.cm (Jo l k)).1++rest) (if(bp.cm (Jo l k)).2.1=true then 0 else a)
def wB(l:List Ob)(au:Nat)(ax follow:Bool):Nat->List bp.cQ->Nat->R4
 |0=>Ad l au ax follow fun _ _ _=>R4.no 13
 |n+1=>Ad l au ax follow (K3 l ax (wB l au ax follow n))
def mf(l:List Ob)(au:Int)(s:bp.cQ)(ax follow:Bool):R4:=
 if lN l au 0=true then
  if(iT l au.toNat).ah≠2 then R4.no 11
  else if(bp.cm s).2.2≠0 then R4.no (bp.cm s).2.2
  else if(bp.cm s).2.1=true/\ax=true then R4.no 14
  else wB l au.toNat ax follow 6 (bp.cm s).1 (if(bp.cm s).2.1=true then 0 else au.toNat)
 else R4.no 6
structure lT(l:List Ob):Prop where
 len:l.length<=64
 pos:0<l.length
 en:∀o,o∈l->R6 l.length o.ah o.aj
 ne:∀o,o∈l->o.aj.length<=64
 up:∀o,o∈l->0<=o.up/\o.up<l.length
theorem lT.Pf{l:List Ob}(h:lT l)(n:Nat):x8 l n<l.length:=by
 rw[x8,iT];cases hn:l[n]? with
 |none=>show(0:Int).toNat<l.length;have:=h.pos;simpa using this
 |some o=>have:=h.up o (NQ hn);show o.up.toNat<l.length;omega
theorem lT.Jp{l:List Ob}(h:lT l){n:Nat}(hn:n<l.length):l[n].up=(x8 l n:Nat):=by rw[x8,q0 hn];have:=h.up _ (Wl hn);omega
theorem lT.dF{l:List Ob}(h:lT l)(n:Nat):B9 (gG (iT l n))/\(∀e,e∈gG (iT l n)->0<=e.2/\e.2<(l.length:Int))/\(gG (iT l n)).length<=64/\∀hn:n<l.length,l[n].aj=(gG (iT l n)).map fw:=by
 rw[iT];cases hn:l[n]? with
 |none=>
  refine⟨List.Pairwise.nil,by simp[gG,V9],by simp[gG,V9],fun h=>?_⟩
  rw[sA h]at hn;cases hn
 |some o=>
  obtain⟨es,h1,h2,h3,h4⟩:=(h.en o (NQ hn)).ex;have h5:gG o=es:=by rw[gG,h1,lO]
  show B9 (gG o)/\(∀e,e∈gG o->_)/\(gG o).length<=64/\∀hn:n<l.length,l[n].aj=(gG o).map fw;rw[h5];refine⟨h2,h3,?_,fun h=>?_⟩
  .have:=h.ne o (NQ hn);rw[h1,KB]at this;exact this
  .rw[sA h]at hn;cases hn;exact h1
theorem lT.Pg{l:List Ob}(h:lT l)(n:Nat)(w:bp.cQ)(hf:¬jH l n w<0):∃k:Nat,jH l n w=k/\k<l.length:=by
 obtain⟨_,h2,_,_⟩:=h.dF n;rcases iA (gG (iT l n)) (bp.b7 w)with⟨e,he,_,h3⟩|⟨h3,_⟩
 .obtain⟨h4,h5⟩:=h2 e he;exact⟨e.2.toNat,by rw[jH,h3];omega,om⟩
 .rw[jH,h3]at hf;omega
theorem Jq{a b:ByteArray}:jF a b<0↔xJ a b:=by
 unfold jF xJ;by_cases h:NM a b=true
 .rw[if_pos h];exact⟨fun _=>h,fun _=>om⟩
 .rw[if_neg h];refine⟨fun h2=>?_,fun h2=>absurd h2 h⟩
  split at h2<;>omega
theorem ui{a b:ByteArray}:jF a b=0↔a.toList=b.toList:=by
 unfold jF;by_cases h:NM a b=true
 .rw[if_pos h];refine⟨fun h2=>om,fun h2=>?_⟩
  rw[NM,h2,mT]at h;cases h
 .rw[if_neg h];rw[abm]at h;by_cases h2:Qk a b=true
  .rw[if_pos h2];refine⟨fun h3=>om,fun h3=>?_⟩
   unfold Qk at h2;rw[h3]at h2;simp at h2
  .rw[if_neg h2];refine⟨fun _=>?_,fun _=>rfl⟩
   unfold Qk at h2;unfold NM at h;rw[h]at h2;simpa using h2
theorem m6{es:List NE}(hs:B9 es)(s:ByteArray):∀(n i j:Nat),j-i<=n->i<=j->j<=es.length->(∀(k:Nat)e,k<i->es[k]? =some e->xJ e.1 s)->(∀(k:Nat)e,j<=k->es[k]? =some e->¬xJ e.1 s)->
  Gc es s n i j<=es.length/\(∀(k:Nat)e,k<Gc es s n i j->es[k]? =some e->xJ e.1 s)/\∀(k:Nat)e,Gc es s n i j<=k->es[k]? =some e->¬xJ e.1 s
 |0,i,j,hn,o8,hj,h1,h2=>by have:i=j:=om;subst this;exact⟨hj,h1,h2⟩
 |n+1,i,j,hn,o8,hj,h1,h2=>by
  rw[Gc];by_cases aE:i<j
  .rw[if_pos aE];have hh:(i+j)/2<es.length:=om;rw[sA hh];simp only[];have hp:=aa1.1 hs;by_cases hc:jF es[(i+j)/2].1 s<0
   .rw[if_pos hc];refine m6 hs s n _ _ om om hj (fun k e hk he=>?_) h2
    have gT:=Jq.1 hc;obtain⟨fj,rfl⟩:=Gf.1 he;rcases Wj k ((i+j)/2)with h3|h3
    .exact pA (hp k _ fj hh h3) gT
    .have:k=(i+j)/2:=om;subst this;exact gT
   .rw[if_neg hc];refine m6 hs s n _ _ om om om h1 fun k e hk he hl=>?_
    have gT:¬xJ es[(i+j)/2].1 s:=fun h=>hc (Jq.2 h)
    obtain⟨fj,rfl⟩:=Gf.1 he;rcases Wj ((i+j)/2) k with h3|h3
    .exact gT (pA (hp _ k hh fj h3) hl)
    .have:k=(i+j)/2:=om;subst this;exact gT hl
  .rw[if_neg aE];have:i=j:=om;subst this;exact⟨hj,h1,h2⟩
theorem EJ{es:List NE}(hs:B9 es)(s:ByteArray):xK es s (if xY es s=true then(match es[oA es s]? with|some e=>e.2|none=>0)else -1):=by
 obtain⟨h0,h1,h2⟩:=m6 hs s es.length 0 es.length om om om (fun k e hk=>absurd hk (aah k)) (fun k e hk he=>by have:=(Gf.1 he).1;omega)
 have hI:Gc es s es.length 0 es.length=oA es s:=rfl;rw[hI]at h0 h1 h2;unfold xY;cases he:es[oA es s]? with
 |none=>
  simp only[];rw[if_neg aI];refine .inr ⟨rfl,fun e hm heq=>?_⟩
  obtain⟨k,hk⟩:=Un hm;have fj:=(Gf.1 hk).1;have:es.length<=oA es s:=abz.1 he;have:=h1 k e om hk;rw[xJ,heq,mT]at this;cases this
 |some e=>
  simp only[];by_cases hc:jF e.1 s=0
  .rw[if_pos (by rw[hc];rfl)]
   exact .inl ⟨e,NQ he,ui.1 hc,rfl⟩
  .rw[if_neg (by simpa using hc)]
   refine .inr ⟨rfl,fun e' hm heq=>?_⟩
   obtain⟨k,hk⟩:=Un hm;obtain⟨fj,xN⟩:=Gf.1 hk;obtain⟨Im,mC⟩:=Gf.1 he;rcases abI k (oA es s)with h3|h3|h3
   .have:=h1 k e' h3 hk;rw[xJ,heq,mT]at this;cases this
   .subst h3;rw[he]at hk;cases hk;exact hc (ui.2 heq)
   .have hp:=aa1.1 hs _ k Im fj h3;rw[mC,xN]at hp;have jQ:=h2 _ e (Pq _) he;apply jQ;rw[xJ,<-heq];exact hp
theorem x9(d:List (List Dt))(hb:d.length<=4194304):body Tryz.prog c97 [pw 1 d] [] (fun r m=>∃r' m',View 0 ⟨[r],m⟩ ⟨[r'],m'⟩/\r'= .rv (.one (.row 0 1 0 none))/\m'=[.row 1 (af d)]):=by
 have p0:((([]:List (List CC)).length+(d.map fun ds=>ds.map CC.aa).length)*1)<=140737488355328:=by simp;omega
 have iu:∃r' m',View 0 ⟨[CV.rv (.one (.row 1 1 0 none))],[.aO,.row 1 (cu ([]:List (List CC)) 0 none++d.map fun ds=>ds.map CC.aa)]⟩ ⟨[r'],m'⟩/\r'=CV.rv (.one (.row 0 1 0 none))/\m'=[Bk.row 1 (af d)]:=
  ⟨_,_,View.o 2 [1] [] (.eq rfl .nil) (.pn rfl rfl rfl),rfl,rfl⟩
 refine aD (fun h=>?_) (fun h=>?_)
 .have hd:d=[]:=Wg (by simpa using Wh h)
  refine⟨?_,p0,iu⟩;subst hd;exact⟨_,_,View.aB 0 1 0 rfl rfl rfl,rfl,rfl⟩
 .exact⟨p0,iu⟩
theorem gd(σ:Nat->Nat)(ds:List (List Dt)):(af ds).map (fun cs=>cs.map (CC.aQ σ))=af ds:=by simp[af,abJ,CC.aQ]
theorem CH(d:List (List Dt))(hb:d.length<=4194304){m:Mem}{K:CV->Mem->Prop}(h:K (.rv (.one (.row m.length 1 0 none))) (m++ [.row 1 (af d)])):aq Tryz.prog 97 [pw 1 d] m K:=by
 refine bw [] m.length rfl rfl rfl rfl (args0:=[pw 1 d]) rfl (fun i b' hi=>by simp at hi) (K0:=fun r m=>r= .rv (.one (.row 0 1 0 none))/\m=[.row 1 (af d)]) (bK (aX Tryz.func97 l97 (x9 d hb)) fun r m1 h=>h) (fun r m1 hr=>?_)
 obtain⟨rfl,rfl⟩:=hr;refine⟨Wi _,?_⟩;show K (.rv (.one (.row (m.length+(0-0)) 1 0 none))) (gL m [.row 1 ((af d).map (fun cs=>cs.map (CC.aQ (sg [] m.length))))])
 rw[gd,cf];exact h
def mB(Q:Nat)(o:Obj):List CC:=[.aa (.val (.int .i64 o.ah)),.row Q 1 0 none,.aa (.sl 2 o.aj),.aa (.val (.string o.target)),.aa (.val (.int .i64 o.aC)),
 .aa (.sl 4 (o.ak.map bo.enc)),.aa (.val (.int .i64 o.aM)),.aa (.val (.int .i64 o.am)),.aa (.val (.int .i64 o.up))]
def Wa(o:Obj):Nat->Mem
 |0=>[.row 9 [],.aO]
 |_+1=>[.row 9 [mB 1 o],.row 1 (af o.data)]
theorem Gh(o:Obj)(hf:o.mz):body Tryz.prog c98 [cq [o]] [] (fun r m=>r= .rv (.one (.row 0 9 0 none))/\m=[.row 9 [mB 1 o],.row 1 (af o.data)]):=by
 obtain⟨ah,data,aj,target,aC,ak,aM,am,up⟩:=o;obtain⟨ID,Hm,Nu,Hn⟩:=hf;have ID:data.length<=4194304:=ID;have Hm:aj.length<=4194304:=Hm;have Nu:ak.length<=4194304:=Nu;have Hn:∀q,q∈ak->q.data.length<=4194304:=Hn;refine ba (fun k=>k<=1) [0,9,10] (fun k=>[(11,an .i64 (k:Nat)),(3,.rv (.one (.row 0 9 0 none)))]) (Wa ⟨ah,data,aj,target,aC,ak,aM,am,up⟩) (fun k=>1-k) 0 (Wi _) ?_ (fun k hk=>?_)
 .refine View.trans (View.aB 2 4 0 rfl rfl rfl) (View.trans (View.aB 3 9 1 rfl rfl rfl) (View.o1 2 [1,0] [] ?_))
  .exact .put (by simp[bz]) rfl (.eq rfl aI) (.aO (.nil _))
 have hk:k<=1:=hk
 match k,hk with
 |0,_=>
  refine CH data ID ?_;refine⟨⟨rfl,trivial⟩,?_⟩;refine qC aj Hm ?_;refine⟨trivial,?_⟩;refine⟨trivial,?_⟩;refine⟨trivial,?_⟩;refine ba (fun j=>j<=ak.length) [0,3,5,9,10,11,24,25] (fun j=>[(26,an .i64 (j:Nat)),(6,.rv (.one (.row 4 4 0 none)))])
    (fun j=>[.row 9 [],.aO,.var (mB 3 ⟨ah,data,aj,target,aC,ak,aM,am,up⟩),.row 1 (af data),.row 4 (af ((ak.take j).map bo.enc))]) (fun j=>ak.length-j) 0 (Wi _) ?_ (fun j hj=>?_)
  .refine View.trans (View.aB 6 4 4 rfl rfl rfl) (View.o1 5 [0,1,2,3,4] [] ?_)
   .exact .pe rfl rfl rfl (.aO (.pe rfl rfl rfl (.pr rfl rfl rfl (.pn rfl rfl rfl))))
  have hj:j<=ak.length:=hj;refine aJ (fun h=>?_) (fun h=>?_)
  .have dL:j<ak.length:=by have h:(j:Int)<((ak.map bo.enc).length:Int):=h;rw[KB]at h;omega
   have vl:=sA dL;have FQ:=Hn _ (Wl dL);generalize ak[j]=q at vl FQ;obtain⟨qd,qh,qo,qr⟩:=q;have yR:dg (ak.map bo.enc) (j:Nat)=some [.sl 1 qd,.val (.bool qh),.val (.int .i64 qo),.val (.int .i64 qr)]:=by rw[bI,NO,vl];rfl
   refine ag yR ?_;refine gl qd FQ ?_;refine⟨?_,?_⟩
   .show((af ((ak.take j).map bo.enc)).length+1)*48<=_;simp[af];omega
   refine⟨j+1,dL,(show ak.length-(j+1)<ak.length-j by omega),View.o 8 [0,1,2,3,7] [] ?_ ?_⟩
   .repeat(first|exact .nil|refine .ar ?_|refine .put (.aQ (aL om).symm) ?_|refine .eq rfl ?_)
   .refine .pe rfl rfl rfl (.aO (.pe rfl rfl rfl (.pr rfl rfl rfl (.pt rfl rfl (.bP ?_) (.nil _)))));rw[rV vl,aav,cN];rfl
  .have eu:¬(j:Int)<((ak.map bo.enc).length:Int):=h;rw[KB]at eu;have hq:ak.take j=ak:=aaR om;refine⟨by show(0+1)*128<=140737488355328;omega,?_⟩
   refine⟨1,Pq 1,(show 1-1<1-0 by omega),View.o 7 [6,3] [4] ?_ ?_⟩
   .repeat(first|exact .nil|refine .ar ?_|refine .put (.aQ (aL om).symm) ?_|refine .eq rfl ?_)
   .refine .pt rfl rfl (lA.B6 (R:=[]) (R':=[]) rfl rfl ?_) (.pn rfl rfl rfl);intro j' c c' h1 h2;have e5:mB 1 ⟨ah,data,aj,target,aC,ak,aM,am,up⟩=[.aa (.val (.int .i64 ah)),.row 1 1 0 none,.aa (.sl 2 aj),.aa (.val (.string target)),.aa (.val (.int .i64 aC)),.aa (.sl 4 ((ak.take j).map bo.enc)),.aa (.val (.int .i64 aM)),.aa (.val (.int .i64 am)),.aa (.val (.int .i64 up))]:=by simp[mB,hq]
    rw[e5]at h2
    match j',h1,h2 with
    |0,h1,h2=>cases h1;cases h2;exact .aQ (.aa _)
    |1,h1,h2=>cases h1;cases h2;exact .aQ (.row 1 1 0 none)
    |2,h1,h2=>cases h1;cases h2;exact .aQ (.aa _)
    |3,h1,h2=>cases h1;cases h2;exact .aQ (.aa _)
    |4,h1,h2=>cases h1;cases h2;exact .aQ (.aa _)
    |5,h1,h2=>cases h1;cases h2;exact .eZ (dj.dX (Z:=fun k=>bz [4] k=true) rfl (by rw[<-aU];rfl) 0 none)
    |6,h1,h2=>cases h1;cases h2;exact .aQ (.aa _)
    |7,h1,h2=>cases h1;cases h2;exact .aQ (.aa _)
    |8,h1,h2=>cases h1;cases h2;exact .aQ (.aa _)
    |n+9,h1,h2=>simp at h1
 |1,_=>exact⟨rfl,rfl⟩
theorem Jr{σ:Nat->Nat}(Q:Nat)(o:Obj):(mB Q o).map (CC.aQ σ)=mB (σ Q) o:=by simp[mB,CC.aQ]
theorem Ma(o:Obj)(hf:o.mz){m:Mem}{K:CV->Mem->Prop}(h:K (.rv (.one (.row m.length 9 0 none))) (m++ [.row 9 [mB (m.length+1) o],.row 1 (af o.data)])):aq Tryz.prog 98 [cq [o]] m K:=by
 refine bw [] m.length rfl rfl rfl rfl rfl (fun i b' hi=>by simp at hi) (aX Tryz.func98 l98 (Gh o hf)) (fun r m1 hr=>?_)
 obtain⟨rfl,rfl⟩:=hr;refine⟨Wi _,?_⟩;show K (.rv (.one (.row (m.length+(0-0)) 9 0 none))) (gL m [.row 9 [(mB 1 o).map (CC.aQ (sg [] m.length))],.row 1 ((af o.data).map (fun cs=>cs.map (CC.aQ (sg [] m.length))))])
 rw[Jr,gd,cf];exact h
def c57:LF:= ⟨43,[.tmp 6,.tmp 7],(.seq (.ai [qu 3 (.box 0),qu 6 (.aF qe),qu 7 (.aF (qi 0))]) (.seq (.block 0 (.seq (.ai [qf 10 0 3,ql 11 10,qu 12 (.aH .eql 11 (qi 2)),qm 9 12]) (.cond 9 (.seq (.ai [qu 6 (.aF qe),qu 7 (.aF (qi 12))]) .ret) (.seq (.ai [qf 14 0 3,ql 15 14,qu 16 (.aH .neq 15 (qi 1)),qm 13 16]) (.cond 13 (.seq (.ai [qu 6 (.aF qe),qu 7 (.aF (qi 8))]) .ret) (.seq (.ai [qm 18 1,qu 19 (.aH .lss 18 (qi 0)),qm 20 19,qg 21 (.aF 2) 20 false,qg 22 (.aH .lss 21 (qi 0)) 20 false,qu 23 (.pick 20 (qb true) 22),qm 17 23]) (.cond 17 (.seq (.ai [qu 6 (.aF qe),qu 7 (.aF (qi 3))]) .ret) .skip))))))) (.seq (.ai [qm 24 1,qf 25 1 3,ql 26 25,qu 27 (.len 1 26),qu 28 (.hC false [24,27]),qm 8 28]) (.seq (.ai [qf 29 1 3,ql 30 29,qm 31 8,qm 32 8,qm 33 2,qf 34 1 3,ql 35 34,qu 36 (.len 1 35),qm 37 8,qu 38 (.aH .sub 36 37),qu 39 (.hC false [33,38]),qu 40 (.aH .add 32 39),qu 41 (.mD 1 30 (some 31) (some 40) none),qu 42 (qc 97 [41]),qm 6 42,qu 7 (.aF (qi 0))]) .ret))))⟩
theorem l57:bs Tryz.prog Tryz.f57=some c57:=by kernel_rfl
def df(a b:Nat):Nat:=if b<a then b else a
theorem pL(a b:Nat):(if(b:Int)<(a:Int)then(b:Int)else(a:Int))=((df a b:Nat):Int):=by unfold df;split<;>split<;>omega
theorem lU(a b:Nat):df a b<=a/\df a b<=b:=by unfold df;split<;>omega
def CI(d:List (List Dt))(cT n:Nat):List (List Dt):=(d.take (df cT d.length+df n (d.length-df cT d.length))).drop (df cT d.length)
def gm(ah:Int)(d:List (List Dt))(cT n:Int):List (List Dt)×Int:=
 if ah=2 then([],12)else if ah≠1 then([],8)else if cT<0\/n<0 then([],3)else(CI d cT.toNat n.toNat,0)
def Wb(d:List (List Dt)):RV:= .one (.aa (.sl 1 d))
end Go.Proofs.YtodckkkbiidffaaGreatDoor
