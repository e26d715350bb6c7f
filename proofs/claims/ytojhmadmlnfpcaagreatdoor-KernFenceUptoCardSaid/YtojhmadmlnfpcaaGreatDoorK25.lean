/- Part 25 of 43: what the law stands on. -/
import Derived.Test.YtojhmadmlnfpcaaGreatDoorK15
import Derived.Test.YtojhmadmlnfpcaaGreatDoorK16
import Derived.Test.YtojhmadmlnfpcaaGreatDoorK18
import Derived.Test.YtojhmadmlnfpcaaGreatDoorRows
import Derived.Shelf.Strings.Search3
import Derived.Shelf.Strings.OnBuilder
import Derived.RangeFuncNested
import Derived.RangeFuncCalls
import Derived.Shelf.Abstract
import Derived.WalkKit
import Derived.OwnWalkIn
import Derived.TacticsInMore
import Derived.LoopNIn
import Derived.LoopIn
set_option linter.unusedVariables false
set_option linter.unusedSimpArgs false
set_option linter.unnecessarySimpa false
set_option maxRecDepth 100000
set_option maxHeartbeats 64000000
namespace Go.Proofs.YtojhmadmlnfpcaaGreatDoor
open Go.AM Go.ChangeShapes Go.WideShapes Go.ChangeAt Go.RowKit
def c141:LF:= ⟨49,[.tmp 6,.tmp 7],(.seq (.ai [qu 6 (.aD (qi 0)),qu 7 (.aD (qb false))]) (.seq (.ai [qm 12 0,qu 13 (.len 1 12),qm 8 13]) (.seq (.ai [qm 14 8,qu 9 (.aD (qi 0)),qm 10 14]) (.seq (.block 0 (.loop (.seq (.seq (.ai [qm 15 9,qm 16 10,qu 17 (.aF .lss 15 16)]) (.cond 17 .skip (.exit 0))) (.block 1 (.seq (.ai [qm 18 9,qm 19 10,qu 20 (.aF .add 18 19),qu 21 (.conv .u64 20),qu 22 (.aF .shr 21 (.c (.rv (.one (.aa (.val (.int .u64 (1)))))))),qu 23 (.conv .i64 22),qm 11 23]) (.seq (.ai [qm 24 2,qm 25 0,qm 26 11,qu 27 (.bO 2 25 26),qL 28 2 27,qm 29 1,qu 30 (.call 24 [28,29]),qu 31 (.aF .lss 30 (qi 0))]) (.cond 31 (.ai [qm 32 11,qu 33 (.aF .add 32 (qi 1)),qm 9 33]) (.ai [qm 34 11,qm 10 34])))))))) (.seq (.ai [qm 35 9,qm 36 9,qm 37 8,qu 38 (.aF .lss 36 37),qm 39 38,qg 40 (.aD 2) 39 true,qg 41 (.aD 0) 39 true,qg 42 (.aD 9) 39 true,qg 43 (.bO 2 41 42) 39 true,qg 44 (.load true 2 43) 39 true,qg 45 (.aD 1) 39 true,qg 46 (.call 40 [44,45]) 39 true,qg 47 (.aF .eql 46 (qi 0)) 39 true,qu 48 (.pick 39 47 (qb false)),qm 6 35,qm 7 48]) .ret)))))⟩
def c142:LF:= ⟨9,[.tmp 4],(.seq (.ai [qu 2 (.box 0),qu 4 (.aD (qi 0))]) (.seq (.ai [qf 5 0 2,ql 6 5,qm 7 1,qu 8 (qc 143 [6,7]),qm 4 8]) .ret))⟩
def c143:LF:= ⟨20,[.tmp 4],(.seq (.ai [qu 4 (.aD (qi 0))]) (.seq (.ai [qm 7 0,qu 8 (qc 157 [7]),qm 5 8]) (.seq (.ai [qm 9 1,qu 10 (qc 157 [9]),qm 6 10]) (.seq (.seq (.ai [qm 11 5]) (.cond 11 (.seq (.seq (.ai [qm 12 6]) (.cond 12 (.seq (.ai [qu 4 (.aD (qi 0))]) .ret) .skip)) (.seq (.ai [qu 4 (.aD (qi (-1)))]) .ret)) .skip)) (.seq (.seq (.ai [qm 13 6]) (.cond 13 (.seq (.ai [qu 4 (.aD (qi 1))]) .ret) .skip)) (.seq (.seq (.ai [qm 14 0,qm 15 1,qu 16 (.aF .lss 14 15)]) (.cond 16 (.seq (.ai [qu 4 (.aD (qi (-1)))]) .ret) .skip)) (.seq (.seq (.ai [qm 17 0,qm 18 1,qu 19 (.aF .gtr 17 18)]) (.cond 19 (.seq (.ai [qu 4 (.aD (qi 1))]) .ret) .skip)) (.seq (.ai [qu 4 (.aD (qi 0))]) .ret))))))))⟩
def c157:LF:= ⟨6,[.tmp 2],(.seq (.ai [qu 2 (.aD (qb false))]) (.seq (.ai [qm 3 0,qm 4 0,qu 5 (.aF .neq 3 4),qm 2 5]) .ret))⟩
theorem l157:bs Tryz.prog Tryz.f157=some c157:=by kernel_rfl
theorem l143:bs Tryz.prog Tryz.f143=some c143:=by kernel_rfl
theorem l142:bs Tryz.prog Tryz.f142=some c142:=by kernel_rfl
theorem l141:bs Tryz.prog Tryz.f141=some c141:=by kernel_rfl
def Q1(a b:ByteArray):Bool:=Op.bytesLess a.toList b.toList
def Ts(a b:ByteArray):Bool:= !(Op.bytesLess a.toList b.toList||a.toList==b.toList)
def kV(a b:ByteArray):Int:=if Q1 a b=true then -1 else if Ts a b=true then 1 else 0
theorem Mu(a:ByteArray):body Tryz.prog c157 [eM a] [] (fun r m=>r=ay false):=by show ay (!(a.toList==a.toList))=ay false;simp
theorem Mv(a:ByteArray){m:Mem}{K:CV->Mem->Prop}(h:K (ay false) m):ar Tryz.prog 157 [eM a] m K:=
 bm Tryz.func157 l157 rfl (aak rfl) (Mu a) rfl rfl h
theorem Mw(a b:ByteArray):body Tryz.prog c143 [eM a,eM b] [] (fun r m=>r=an .i64 (kV a b)):=by
 refine Mv a ?_;refine Mv b ?_;refine aE (fun h1=>?_) (fun h1=>?_)
 .show an _ _=an _ _;rw[kV,if_pos (show Q1 a b=true from h1)]
 refine aE (fun h2=>?_) (fun h2=>?_)
 .show an _ _=an _ _;rw[kV,if_neg (by rw[show Q1 a b=false from h1];simp),if_pos (show Ts a b=true from h2)]
 .show an _ _=an _ _;rw[kV,if_neg (by rw[show Q1 a b=false from h1];simp),if_neg (by rw[show Ts a b=false from h2];simp)]
theorem Mx(a b:ByteArray){m:Mem}{K:CV->Mem->Prop}(h:K (an .i64 (kV a b)) m):ar Tryz.prog 143 [eM a,eM b] m K:=
 bm Tryz.func143 l143 rfl (aak rfl) (Mw a b) rfl rfl h
def cZ(e:ByteArray×Int):List Dt:=[.val (.string e.1),.val (.int .i64 e.2)]
def wh(e:ByteArray×Int):CV:= .rv (.agg ((cZ e).map .aa))
theorem Fh(e:ByteArray×Int)(s:ByteArray):body Tryz.prog c142 [wh e,eM s] [] (fun r m=>r=an .i64 (kV e.1 s)):=
 Mx e.1 s rfl
theorem Q2(e:ByteArray×Int)(s:ByteArray){m:Mem}{K:CV->Mem->Prop}(h:K (an .i64 (kV e.1 s)) m):ar Tryz.prog 142 [wh e,eM s] m K:=
 bm Tryz.func142 l142 rfl (aak rfl) (Fh e s) rfl rfl h
def I7(es:List (ByteArray×Int))(s:ByteArray):Nat->Nat->Nat->Nat
 |0,i,_=>i
 |n+1,i,j=>if i<j then(match es[(i+j)/2]? with
   |some e=>if kV e.1 s<0 then I7 es s n ((i+j)/2+1) j else I7 es s n i ((i+j)/2)
   |none=>i)else i
def pT(es:List (ByteArray×Int))(s:ByteArray):Nat:=I7 es s es.length 0 es.length
def Aq(es:List (ByteArray×Int))(s:ByteArray):Bool:=match es[pT es s]? with|some e=>kV e.1 s==0|none=>false
structure YY where
 i:Nat
 j:Nat
theorem ou{es:List (ByteArray×Int)}{k:Nat}(h:k<es.length):cy (es.map cZ) (k:Nat)=some [.val (.string es[k].1),.val (.int .i64 es[k].2)]:=by rw[bl,aaf,aab h];rfl
theorem Fi{i j:Nat}(h:i+j<=4294967296):IntKind.i64.wrap ((IntKind.u64.wrap (IntKind.i64.wrap ((i:Int)+(j:Int)))).fdiv (2^(min (1:Int).toNat IntKind.u64.bits)))=(((i+j)/2:Nat):Int):=by
 rw[show(i:Int)+(j:Int)=((i+j:Nat):Int) by omega,jN om]
 have hu:IntKind.u64.wrap ((i+j:Nat):Int)=((i+j:Nat):Int):=by simp only[IntKind.wrap,IntKind.bits,IntKind.signed];simp;omega
 rw[hu,show(2:Int)^(min (1:Int).toNat IntKind.u64.bits)=((2:Nat):Int)from rfl];rw[show(((i+j:Nat):Int)).fdiv ((2:Nat):Int)=(((i+j)/2:Nat):Int) by rw[Int.fdiv_eq_ediv_of_nonneg _ om];exact(Int.natCast_ediv _ _).symm]
 rw[jN om]
theorem Pg(es:List (ByteArray×Int))(hl:es.length<=2147483648)(s:ByteArray)(F:Nat)(hF:∀(e:ByteArray×Int)(m:Mem)(K:CV->Mem->Prop),K (an .i64 (kV e.1 s)) m->ar Tryz.prog F [wh e,eM s] m K):
  body Tryz.prog c141 [rd 2 (es.map cZ),eM s,.rv (.one (.fn F []))] [] (fun r m=>r= .bF [.one (.aa (.val (.int .i64 (pT es s:Nat)))),.one (.aa (.val (.bool (Aq es s))))]):=by
 refine aO (fun a:YY=>a.i<=a.j/\a.j<=es.length/\∃n,a.j-a.i<=n/\I7 es s n a.i a.j=pT es s) [0,1,2] (fun a=>[(8,an .i64 (es.length:Nat)),(9,an .i64 (a.i:Nat)),(10,an .i64 (a.j:Nat))]) (fun _=>[]) (fun a=>a.j-a.i) ⟨0,es.length⟩ ⟨aao _,aaj _,es.length,aG,rfl⟩ ?_ (fun a ha=>?_)
 .refine View.o 0 [] [] ?_ (.nil _);have hlen:an .i64 (((es.map cZ).length:Nat):Int)=an .i64 ((es.length:Nat):Int):=by rw[aad]
  repeat(first|exact .nil|refine .ap ?_|refine .eq rfl ?_|refine .eq hlen.symm ?_)
 obtain⟨i,j⟩:=a;obtain⟨h1,h2,n,h3,h4⟩:=ha;have h1:i<=j:=h1;have h2:j<=es.length:=h2;have h3:j-i<=n:=h3;have h4:I7 es s n i j=pT es s:=h4;refine aB (fun h=>?_) (fun h=>?_)
 .have aC:i<j:=by have h:(i:Int)<(j:Int):=h;omega
  obtain⟨n,rfl⟩:∃n',n=n'+1:=⟨n-1,om⟩;have hh:(i+j)/2<es.length:=om;rw[I7,if_pos aC,aab hh]at h4;have ei:cy (es.map cZ) (IntKind.i64.wrap ((IntKind.u64.wrap (IntKind.i64.wrap ((i:Int)+(j:Int)))).fdiv (2^(min (1:Int).toNat IntKind.u64.bits))))=some [.val (.string es[(i+j)/2].1),.val (.int .i64 es[(i+j)/2].2)]:=by rw[Fi om];exact ou hh
  refine ag ei ?_;refine hF es[(i+j)/2] _ _ ?_;refine aB (fun h5=>?_) (fun h5=>?_)
  .have h5:kV es[(i+j)/2].1 s<0:=h5;simp only[]at h4;rw[if_pos h5]at h4;refine⟨⟨(i+j)/2+1,j⟩,⟨by show(i+j)/2+1<=j;omega,h2,n,by show j-((i+j)/2+1)<=n;omega,h4⟩,(show j-((i+j)/2+1)<j-i by omega),View.o 0 [] [] ?_ (.nil _)⟩
   have e1:an .i64 (IntKind.i64.wrap (IntKind.i64.wrap ((IntKind.u64.wrap (IntKind.i64.wrap ((i:Int)+(j:Int)))).fdiv (2^(min (1:Int).toNat IntKind.u64.bits)))+1))=an .i64 (((i+j)/2+1:Nat):Int):=by
    rw[Fi om,show(((i+j)/2:Nat):Int)+1=(((i+j)/2+1:Nat):Int) by omega,jN om]
   repeat(first|exact .nil|refine .ap ?_|refine .eq rfl ?_|refine .eq e1.symm ?_)
  .have h5:¬kV es[(i+j)/2].1 s<0:=h5;simp only[]at h4;rw[if_neg h5]at h4;refine⟨⟨i,(i+j)/2⟩,⟨by show i<=(i+j)/2;omega,by show(i+j)/2<=es.length;omega,n,by show(i+j)/2-i<=n;omega,h4⟩,(show(i+j)/2-i<j-i by omega),View.o 0 [] [] ?_ (.nil _)⟩
   have e1:an .i64 (IntKind.i64.wrap ((IntKind.u64.wrap (IntKind.i64.wrap ((i:Int)+(j:Int)))).fdiv (2^(min (1:Int).toNat IntKind.u64.bits))))=an .i64 (((i+j)/2:Nat):Int):=by rw[Fi om]
   repeat(first|exact .nil|refine .ap ?_|refine .eq rfl ?_|refine .eq e1.symm ?_)
 .have pM:i=j:=by have h:¬(i:Int)<(j:Int):=h;omega
  subst pM;have hI:pT es s=i:=by
   rw[<-h4];cases n with
   |zero=>rfl
   |succ n=>rw[I7,if_neg (Nat.lt_irrefl _)]
  rw[Aq,hI];refine aB (fun h6=>?_) (fun h6=>?_)
  .have aC:i<es.length:=by have h6:(i:Int)<(es.length:Int):=h6;omega
   refine ag (ou aC) ?_;refine hF es[i] _ _ ?_;show CV.bF _=CV.bF _;rw[aab aC]
  .have ei:¬i<es.length:=by have h6:¬(i:Int)<(es.length:Int):=h6;omega
   show CV.bF _=CV.bF _;rw[aaG om]
def Xf(es:List (ByteArray×Int))(s:ByteArray):CV:= .bF [.one (.aa (.val (.int .i64 (pT es s:Nat)))),.one (.aa (.val (.bool (Aq es s))))]
theorem My(es:List (ByteArray×Int))(hl:es.length<=2147483648)(s:ByteArray)(F:Nat)(hF:∀(e:ByteArray×Int)(m:Mem)(K:CV->Mem->Prop),K (an .i64 (kV e.1 s)) m->ar Tryz.prog F [wh e,eM s] m K){m:Mem}{K:CV->Mem->Prop}(h:K (Xf es s) m):ar Tryz.prog 141 [rd 2 (es.map cZ),eM s,.rv (.one (.fn F []))] m K:=by
 refine bb (K0:=fun r _=>r=Xf es s) (aZ Tryz.func141 l141 (Pg es hl s F hF)) (by simp[rd,eM,CV.dx,CC.dx,RV.dx]) fun r m1 hr=>?_
 subst hr;exact⟨_,cJ.self rfl,h⟩
theorem Sp(es:List (ByteArray×Int))(hl:es.length<=2147483648)(s:ByteArray)(F:Nat)(hF:∀(e:ByteArray×Int)(m:Mem)(K:CV->Mem->Prop),K (an .i64 (kV e.1 s)) m->ar Tryz.prog F [wh e,eM s] m K){m:Mem}{id:Nat}(hb:df m id=some (.row 2 (af (es.map cZ)))){K:CV->Mem->Prop}(h:K (Xf es s) m):ar Tryz.prog 141 [.rv (.one (.row id 2 0 none)),eM s,.rv (.one (.fn F []))] m K:=
 Ly [id] (args0:=[rd 2 (es.map cZ),eM s,.rv (.one (.fn F []))]) (My es hl s F hF (K:=fun r _=>r=Xf es s) rfl) (.put (qv.fv id (es.map cZ) (by simp[bq]) hb) (.eq rfl (.eq rfl .nil))) fun r m1 hr=>by subst hr;exact⟨rfl,h⟩
def Tryz.CF:Go.Shelf.Ren:=⟨fun|143=>156|219=>161|217=>163|225=>164|224=>165|267=>166|266=>168|314=>169|n=>n,fun|9=>9|3=>3|4=>4|5=>5|46=>120|146=>255|51=>179|n=>n,fun|1=>0|n=>n⟩
theorem Tryz.Ph:Go.Proofs.Lays.n143 Tryz.prog Tryz.CF:={
 mixed:=by kernel_rfl,
 f143:=Tryz.func156.trans (congrArg some (by kernel_rfl)),
 f217:=Tryz.func163.trans (congrArg some (by kernel_rfl)),
 f219:=Tryz.func161.trans (congrArg some (by kernel_rfl)),
 f224:=Tryz.func165.trans (congrArg some (by kernel_rfl)),
 f225:=Tryz.func164.trans (congrArg some (by kernel_rfl)),
 f266:=Tryz.func168.trans (congrArg some (by kernel_rfl)),
 f267:=Tryz.func166.trans (congrArg some (by kernel_rfl)),
 f314:=Tryz.func169.trans (congrArg some (by kernel_rfl)),
 t3:=Tryz.underlying3,
 a3:=Tryz.isAgg3,
 z3:=Tryz.sizeOf3,
 v3:=Tryz.zeroValue3,
 t4:=Tryz.underlying4,
 a4:=Tryz.isAgg4,
 z4:=Tryz.sizeOf4,
 v4:=Tryz.zeroValue4,
 t5:=Tryz.underlying5,
 a5:=Tryz.isAgg5,
 z5:=Tryz.sizeOf5,
 v5:=Tryz.zeroValue5,
 t9:=Tryz.underlying9,
 a9:=Tryz.isAgg9,
 z9:=Tryz.sizeOf9,
 v9:=Tryz.zeroValue9,
 t46:=Tryz.underlying120,
 a46:=Tryz.isAgg120,
 z46:=Tryz.sizeOf120,
 v46:=Tryz.zeroValue120,
 t51:=Tryz.underlying179,
 a51:=Tryz.isAgg179,
 z51:=Tryz.sizeOf179,
 v51:=Tryz.zeroValue179,
 t146:=Tryz.underlying255,
 a146:=Tryz.isAgg255,
 z146:=Tryz.sizeOf255,
 v146:=Tryz.zeroValue255,
 g1:=by kernel_rfl}
def Tryz.ua:Go.Shelf.Ren:=⟨fun|156=>71|165=>109|166=>110|169=>111|240=>136|241=>137|276=>152|277=>153|n=>n,fun|31=>138|9=>9|3=>3|4=>4|0=>0|20=>20|72=>190|76=>193|70=>188|37=>33|75=>192|127=>230|164=>240|5=>5|80=>195|n=>n,fun|n=>n⟩
theorem Tryz.Hp:Go.Proofs.Lays.n156 Tryz.prog Tryz.ua:={
 mixed:=by kernel_rfl,
 f156:=Tryz.func71.trans (congrArg some (by kernel_rfl)),
 f165:=Tryz.func109.trans (congrArg some (by kernel_rfl)),
 f166:=Tryz.func110.trans (congrArg some (by kernel_rfl)),
 f169:=Tryz.func111.trans (congrArg some (by kernel_rfl)),
 f240:=Tryz.func136.trans (congrArg some (by kernel_rfl)),
 f241:=Tryz.func137.trans (congrArg some (by kernel_rfl)),
 f276:=Tryz.func152.trans (congrArg some (by kernel_rfl)),
 f277:=Tryz.func153.trans (congrArg some (by kernel_rfl)),
 t0:=Tryz.underlying0,
 a0:=Tryz.isAgg0,
 z0:=Tryz.sizeOf0,
 v0:=Tryz.zeroValue0,
 t3:=Tryz.underlying3,
 a3:=Tryz.isAgg3,
 z3:=Tryz.sizeOf3,
 v3:=Tryz.zeroValue3,
 t4:=Tryz.underlying4,
 a4:=Tryz.isAgg4,
 z4:=Tryz.sizeOf4,
 v4:=Tryz.zeroValue4,
 t9:=Tryz.underlying9,
 a9:=Tryz.isAgg9,
 z9:=Tryz.sizeOf9,
 v9:=Tryz.zeroValue9,
 t20:=Tryz.underlying20,
 a20:=Tryz.isAgg20,
 z20:=Tryz.sizeOf20,
 v20:=Tryz.zeroValue20,
 t31:=Tryz.underlying138,
 a31:=Tryz.isAgg138,
 z31:=Tryz.sizeOf138,
 v31:=Tryz.zeroValue138,
 t37:=Tryz.underlying33,
 a37:=Tryz.isAgg33,
 z37:=Tryz.sizeOf33,
 v37:=Tryz.zeroValue33,
 t70:=Tryz.underlying188,
 a70:=Tryz.isAgg188,
 z70:=Tryz.sizeOf188,
 v70:=Tryz.zeroValue188,
 t72:=Tryz.underlying190,
 a72:=Tryz.isAgg190,
 z72:=Tryz.sizeOf190,
 v72:=Tryz.zeroValue190,
 t75:=Tryz.underlying192,
 a75:=Tryz.isAgg192,
 z75:=Tryz.sizeOf192,
 v75:=Tryz.zeroValue192,
 t76:=Tryz.underlying193,
 a76:=Tryz.isAgg193,
 z76:=Tryz.sizeOf193,
 v76:=Tryz.zeroValue193,
 t127:=Tryz.underlying230,
 a127:=Tryz.isAgg230,
 z127:=Tryz.sizeOf230,
 v127:=Tryz.zeroValue230,
 t164:=Tryz.underlying240,
 a164:=Tryz.isAgg240,
 z164:=Tryz.sizeOf240,
 v164:=Tryz.zeroValue240}
theorem Tryz.Hq:Builder.Extra Tryz.prog Tryz.ua:={
 sizeBuilder:=by kernel_rfl,
 liesBuilder:=by kernel_rfl,
 t5:=Tryz.underlying5,
 a5:=Tryz.isAgg5,
 z5:=Tryz.sizeOf5,
 v5:=Tryz.zeroValue5,
 infoByte:=by kernel_rfl,
 cellsByte:=by kernel_rfl,
 sizeByte:=by kernel_rfl,
 neB5:=by decide}
namespace bJ
theorem I8(s:ByteArray)(c:UInt8)(w:World):Calls Tryz.prog 156 #[.string s,.string ⟨#[c]⟩] w fun e w'=>e= .returned (.int .i64 (Lib.indexByte s.data.toList c))/\w'=w:=
 Any.strings_Index_one Tryz.Ph s c w
end bJ
theorem I9(a:Option Addr)(c:Nat)(sep:ByteArray)(w:World):Calls Tryz.prog 71 #[.slice a 0 c,.string sep] w fun e w'=>e= .returned (.string ⟨#[]⟩)/\w'=w:=
 Any.strings_Join_none Tryz.Hp Tryz.Hq a c sep w
theorem Pi(bk o c:Nat)(xs:List ByteArray)(sep:ByteArray)(w:World)(ez:∀(j:Nat)x,xs[j]? =some x->w.cell? ⟨bk,o+j,none⟩=some (.string x))(fj:bk<w.heap.size)(hN:xs.length<=140737488355328)(bp:xs.length<=c)(hlen:(Lib.join (xs.map (·.data.toList)) sep.data.toList).length<=140737488355328):
  Calls Tryz.prog 71 #[.slice (some ⟨bk,o,none⟩) xs.length c,.string sep] w fun e w'=>e= .returned (.string ⟨(Lib.join (xs.map (·.data.toList)) sep.data.toList).toArray⟩)/\Below w.heap.size w w':=
 Any.strings_Join Tryz.Hp Tryz.Hq bk o c xs sep w ez fj hN bp hlen
namespace bJ
attribute [local go_sem] Oper.semAt_some
def gx(c:UInt8):List UInt8->List (List UInt8)
 | []=>[[]]
 |x::r=>if x==c then []::gx c r else match gx c r with
  | []=>[[x]]
  |p::ps=>(x::p)::ps
theorem sO{c:UInt8}:∀{l:List UInt8},Lib.indexByte l c= -1->gx c l=[l]
 | [],_=>rfl
 |x::r,h=>by
  simp only[Lib.indexByte]at h;split at h
  .cases h
  .rename_i hx;split at h
   .rename_i h2;have QJ:Lib.indexByte r c= -1:=by simpa using h2
    simp only[gx,hx,sO QJ,abh,if_false]
   .have:=Lib.indexByte_ge r c;omega
theorem y4{c:UInt8}:∀{l:List UInt8}{i:Nat},Lib.indexByte l c=i->i<l.length/\gx c l=l.take i::gx c (l.drop (i+1))
 | [],i,h=>by simp[Lib.indexByte]at h
 |x::r,i,h=>by
  simp only[Lib.indexByte]at h;split at h
  .rename_i hx;have:i=0:=om;subst this;simp[gx,hx]
  .rename_i hx;split at h
   .omega
   .cases i with
    |zero=>
     have:=Lib.indexByte_ge r c;rename_i h2;have:Lib.indexByte r c= -1:=om;simp[this]at h2
    |succ i=>
     have h3:Lib.indexByte r c=i:=om;obtain⟨h4,h5⟩:=y4 h3;refine⟨by simpa using h4,?_⟩
     simp only[gx,hx,h5,abh,if_false];simp
def cz(l:List UInt8):ByteArray:=⟨l.toArray⟩
def gT(c:UInt8)(s:ByteArray):List ByteArray:=(gx c s.data.toList).map cz
end bJ
namespace bJ
attribute [local go_sem] Oper.semAt_some
def Ar(w:World)(b o:Nat):Nat:=match w.cell? ⟨b,o,none⟩with|some (.string s)=>s.size|_=>0
theorem wi{w:World}{b o:Nat}{s:ByteArray}(h:w.cell? ⟨b,o,none⟩=some (.string s)):Ar w b o=s.size:=by simp[Ar,h]
@[simp] theorem oU(r:List UInt8):(cz r).data.toList=r:=rfl
@[simp] theorem mG(r:List UInt8):(cz r).size=r.length:=by simp[cz,ByteArray.size]
theorem rq(r:List UInt8)(a b:Nat)(hb:b<=r.length):(cz r).extract a b=cz ((r.take b).drop a):=by apply ByteArray.ext;simp[cz,ByteArray.data_extract,List.drop_take]
def YZ(F:Fence)(n:Nat)(P:Program)(l:Nat)(args:Array Value)(W:World)(R:Ending->World->Prop):Prop:=
 ∃fn tmps assign body,(Instr.yield l args).run P W= .ok (.round l fn tmps assign body) W/\RoundIn F n P l fn tmps assign body W R
theorem Fj(F:Fence)(n:Nat)(h49:F.fn 154)(h51:F.fn 156)(hro:F.round=none)(hn:3<=n)(s:ByteArray)(c:UInt8)(l b1 o1 b2 o2 b3 o3:Nat)(W:World)(J:Nat->World->Prop)(Jx:World->Prop)(n12:b1≠b2)(n13:b1≠b3)(n23:b2≠b3)(hix:∀(s:ByteArray)(w:World),CallsIn F (n-1) Tryz.prog 156 #[.string s,.string ⟨#[c]⟩] w fun e w'=>e= .returned (.int .i64 (Lib.indexByte s.data.toList c))/\w'=w)(c1:W.cell? ⟨b1,o1,none⟩=some (.string ⟨#[c]⟩))(c2:W.cell? ⟨b2,o2,none⟩=some (.string s))(f2:W.frozen? ⟨b2,o2,none⟩=false)(c3:W.cell? ⟨b3,o3,none⟩=some (.int .i64 0))(hJ:∀k W v,J k W->J k (W.setCell ⟨b2,o2,none⟩ v))(hY:∀k y W,(gT c s)[k]? =some y->J k W->YZ F (n-1) Tryz.prog l #[.string y] W fun e W'=>
   (e= .returned (.bool true)/\J (k+1) W'/\W'.heap[b1]? =W.heap[b1]? /\W'.heap[b2]? =W.heap[b2]? /\W'.heap[b3]? =W.heap[b3]?)\/(e= .returned (.bool false)/\Jx W'))(h0:J 0 W)(hsz:(s.size:Int)<4611686018427387904):
  CallsIn F n Tryz.prog 154 #[.func (.yield l) #[] #[],.pointer (some ⟨b1,o1,none⟩),.pointer (some ⟨b2,o2,none⟩),.pointer (some ⟨b3,o3,none⟩)] W fun e W'=>
   (∃v,e= .returned v)/\(J (gT c s).length W'\/Jx W'):=by
 have h1:1<=n:=om;refine callsIn_of_wp Tryz.func154 rfl h49 ?_ hro;simp only[Tryz.ntmps154,List.size_toArray,aax,aaT,Nat.reduceAdd,Nat.reduceSub,Array.replicate_succ,Array.replicate_zero,List.push_toArray,List.append_toArray,acT,abN]
 gi_wp2
 gi_loopw [] (fun wr=>∃(k:Nat)(r:List UInt8),wr.cell? ⟨b2,o2,none⟩=some (.string (cz r))/\wr.frozen? ⟨b2,o2,none⟩=false/\wr.cell? ⟨b1,o1,none⟩=some (.string ⟨#[c]⟩)/\
   wr.cell? ⟨b3,o3,none⟩=some (.int .i64 0)/\(gT c s).drop k=(gx c r).map cz/\J k wr/\r.length<=s.size) (fun wr=>Ar wr b2 o2)
 case atStart=>
  exact⟨0,s.data.toList,by rw[c2];rfl,f2,c1,c3,rfl,h0,by show s.data.toList.length<=s.data.size;rw[abv];exact aaj _⟩
 case round=>
  obtain⟨k,r,d2,g2,d1,d3,hcut,hj,hlen⟩:=hrel;rcases Int.lt_or_le (Lib.indexByte r c) 0 with hneg|hpos
  .have hm1:Lib.indexByte r c= -1:=by have:=Lib.indexByte_ge r c;omega
   have hix:=(hix (cz r) wr).mono (R':=fun e w'=>e= .returned (.int .i64 (-1))/\w'=wr) fun e w'⟨h1,h2⟩=>⟨by rw[h1,oU,hm1],h2⟩
   have hk:(gT c s)[k]? =some (cz r):=by
    have:=congrArg (fun l=>l[0]?) hcut
    simp only[aaZ,sO hm1]at this;simpa using this
   have hlen2:(gT c s).length=k+1:=by have h2:=congrArg List.length hcut;have h3:=(aac.1 hk).1;rw[sO hm1,aa4]at h2;simp only[aaX,acr,aax,aaT]at h2;omega
   obtain⟨fn,tmps,assign,body,hy,hR⟩:=hY k _ wr hk hj;have hfin:∀W,J (k+1) W->J (gT c s).length W:=fun W h=>hlen2▸h
   clear hY hJ hcut hneg hm1 hk c1 c2 f2 c3 h0 hlen2
   gi_wp2_with (gi_at_call 156;refine hix.mono ?_;rintro e w' ⟨rfl,rfl⟩)
   refine hR.mono ?_;rintro e W' (⟨rfl,hJ',_⟩|⟨rfl,hx⟩)
   .gi_wp2
    go_end0
    exact⟨⟨_,rfl⟩,.inl (hfin _ hJ')⟩
   .gi_wp2
    go_end0
    exact⟨⟨_,rfl⟩,.inr hx⟩
  .obtain⟨i,hi⟩:=Int.eq_ofNat_of_zero_le hpos;obtain⟨hlt,hcut2⟩:=y4 hi;have hk:(gT c s)[k]? =some (cz (r.take i)):=by
    have:=congrArg (fun l=>l[0]?) hcut
    simp only[aaZ,hcut2]at this;simpa using this
   have hnext:(gT c s).drop (k+1)=(gx c (r.drop (i+1))).map cz:=by have:=congrArg List.tail hcut;rw[hcut2,List.tail_drop]at this;simpa using this
   obtain⟨fn,tmps,assign,body,hy,hR⟩:=hY k _ wr hk hj;obtain⟨z,hz⟩:∃z:Int,z=(i:Int):=⟨_,rfl⟩;have hix:=(hix (cz r) wr).mono (R':=fun e w'=>e= .returned (.int .i64 z)/\w'=wr) fun e w'⟨h1,h2⟩=>⟨by rw[h1,oU,hi,hz],h2⟩
   have Hnext:Hid ((gT c s).drop (k+1)=(gx c (r.drop (i+1))).map cz):=hnext;have HJ:Hid (∀k W v,J k W->J k (W.setCell ⟨b2,o2,none⟩ v)):=hJ;have Hz:Hid (z=(i:Int)):=hz;have z0:0<=z:=om;have z0':decide (z<0)=false:=decide_eq_false om;have z1:z<r.length:=om;have hw1:wrap64 z=z:=by unfold wrap64;omega
   have hw2:wrap64 (z+1)=z+1:=by unfold wrap64;omega
   have hs1:(0<=z/\z<=(r.length:Int))=True:=by simp;omega
   have hs2:(0<=z+1/\z+1<=(r.length:Int))=True:=by simp;omega
   have hs3:z<=(r.length:Int):=om;have hs4:0<=z+1:=om;have hs5:z+1<=(r.length:Int):=om;have he1:cz (r.take i)=(cz r).extract 0 z.toNat:=by rw[rq r _ _ om,hz];simp
   have he2:(cz r).extract (z+1).toNat r.length=cz (r.drop (i+1)):=by rw[rq r _ _ (aaj _),aaO,hz];rfl
   have Hend:Hid (i<r.length/\r.length<=s.size/\(cz r).extract (z+1).toNat r.length=cz (r.drop (i+1))):=⟨hlt,hlen,he2⟩;rw[he1]at hy;clear hJ hY hcut hcut2 hi hk c1 c2 f2 c3 h0 hpos hnext hz hsz he1 he2 hlt hlen
   gi_wp2_with (first
    |(gi_at_call 156;refine hix.mono ?_;rintro e w' ⟨rfl,rfl⟩)
    |(refine wpIn_cond_false (by show Value.bool (decide (z<0))=Value.bool false;rw[z0']) ?_))
   refine hR.mono ?_;rintro e W' (⟨rfl,hJ',e1,e2,e3⟩|⟨rfl,hx⟩)
   .have q1:W'.cell? ⟨b1,o1,none⟩=some (.string ⟨#[c]⟩):=(World.cell?_of_block (a:=⟨b1,o1,none⟩) e1).trans d1;have q2:W'.cell? ⟨b2,o2,none⟩=some (.string (cz r)):=(World.cell?_of_block (a:=⟨b2,o2,none⟩) e2).trans d2;have q3:W'.cell? ⟨b3,o3,none⟩=some (.int .i64 0):=(World.cell?_of_block (a:=⟨b3,o3,none⟩) e3).trans d3;have q4:W'.frozen? ⟨b2,o2,none⟩=false:=by rw[<-g2];simp only[World.frozen?,e2]
    gi_wp2
    obtain⟨hlt,hlen,he2⟩:=Hend.out;have hq:(W'.cell? ⟨b2,o2,none⟩).isSome=true:=by rw[q2];rfl
    have hn2:=World.cell?_setCell_same' W' ⟨b2,o2,none⟩ (.string ((cz r).extract (z+1).toNat r.length)) hq;rw[he2]at hn2⊢;refine⟨⟨k+1,r.drop (i+1),hn2,by rw[World.frozen?_setCell];exact q4,?_,?_,Hnext.out,HJ.out _ _ _ hJ',by simp;omega⟩,?_⟩
    .exact(World.cell?_setCell_other _ _ _ _ fun e=>n12 (congrArg Addr.block e).symm).trans q1
    .exact(World.cell?_setCell_other _ _ _ _ fun e=>n23 (congrArg Addr.block e)).trans q3
    .rw[wi hn2,wi d2,mG,mG,aa4];omega
   .gi_wp2
    refine bodyPost_ret (results_none rfl _ _ _) rfl ?_;exact⟨⟨_,rfl⟩,.inr hx⟩
theorem pU(W:World)(a:Addr)(v:Value){b:Nat}(h:b≠a.block):(W.setCell a v).heap[b]? =W.heap[b]? :=by simp only[World.setCell,aba];rw[if_neg (fun e=>h e.symm)]
theorem As{n:Nat}{P:Program}{l:Nat}{f:FuncId}{tmps:Array Value}{assign body:Code}{w:World}{R:Ending->World->Prop}(h:RoundIn Fence.wide 0 P l f tmps assign body w R):
  RoundIn Fence.wide n P l f tmps assign body w R:=⟨h.1,fun c cs _=>h.2 c cs (room_wide _)⟩
theorem Jb(s:ByteArray)(c:UInt8)(hsz:(s.size:Int)<4611686018427387904):TQ Tryz.prog 154 [.string ⟨#[c]⟩,.string s,.int .i64 0] (gT c s):=by
 refine⟨⟨Tryz.f154,Tryz.func154,rfl,by decide⟩,?_⟩
 intro l az W J Jx hlen hnd hcell hJ hJx hY h0
 match az,hlen with
 | [(b1,o1),(b2,o2),(b3,o3)],_=>
 obtain⟨c1,f1⟩:=hcell 0 _ _ rfl rfl;obtain⟨c2,f2⟩:=hcell 1 _ _ rfl rfl;obtain⟨c3,f3⟩:=hcell 2 _ _ rfl rfl;simp only[aaX,acr,abH,aaJ,abB,or_false,not_or,List.nodup_nil]at hnd;obtain⟨⟨n12,n13⟩,n23,_⟩:=hnd;show CallsIn Fence.wide 0 Tryz.prog 154 #[.func (.yield l) #[] #[],.pointer (some ⟨b1,o1,none⟩),.pointer (some ⟨b2,o2,none⟩),.pointer (some ⟨b3,o3,none⟩)] W _;refine callsIn_wide.2 ((callsIn_wide (n:=5)).1 ?_);refine Fj Fence.wide 5 trivial trivial rfl om s c l b1 o1 b2 o2 b3 o3 W J Jx n12 n13 n23 (fun s w=>callsIn_wide.2 (I8 s c w)) c1 c2 f2 c3 ?_ ?_ h0 hsz
 .intro k W v hj;exact hJ k W _ hj aG (fun b _ hb=>pU _ _ _ (hb (b2,o2) aG)) rfl rfl rfl
 .intro k y W hk hj;obtain⟨fn,tmps,assign,body,hy,hR⟩:=hY k y W hk hj;refine⟨fn,tmps,assign,body,hy,(As hR).mono fun e W' h=>?_⟩
  rcases h with⟨he,h1,h2,h3⟩|⟨he,h1⟩
  .exact .inl ⟨he,h1,h3 (b1,o1) aG,h3 (b2,o2) aG,h3 (b3,o3) aG⟩
  .exact .inr ⟨he,h1⟩
end bJ
def c113:LF:= ⟨52,[.tmp 2],(.seq (.ai [qu 2 (.aD (qb false))]) (.seq (.seq (.ai [qm 5 0,qu 6 (.len 0 5),qu 7 (.aF .lss 6 (qi 1)),qm 8 7,qg 9 (.aD 0) 8 false,qg 10 (.len 0 9) 8 false,qg 11 (.aF .gtr 10 (qi 12)) 8 false,qu 12 (.pick 8 (qb true) 11),qm 13 12,qg 14 (.aD 0) 13 false,qg 15 (.aF .eql 14 (.c (.rv (.one (.aa (.val (.string ⟨#[46]⟩))))))) 13 false,qu 16 (.pick 13 (qb true) 15),qm 17 16,qg 18 (.aD 0) 17 false,qg 19 (.aF .eql 18 (.c (.rv (.one (.aa (.val (.string ⟨#[46,46]⟩))))))) 17 false,qu 20 (.pick 17 (qb true) 19)]) (.cond 20 (.seq (.ai [qu 2 (.aD (qb false))]) .ret) .skip)) (.seq (.seq (.ai [qm 21 0,qu 22 (.len 0 21),qu 23 (.aD (qi 0))]) (.block 0 (.loop (.seq (.ai [qu 24 (.aF .lss 23 22)]) (.seq (.cond 24 .skip (.exit 0)) (.seq (.block 1 (.seq (.ai [qm 25 23,qm 3 25]) (.seq (.ai [qm 26 0,qm 27 3,qu 28 (.Bv 26 27),qm 4 28]) (.seq (.ai [qm 29 4,qu 30 (.aF .lss 29 (.c (.rv (.one (.aa (.val (.int .u8 (97)))))))),qm 31 30,qg 32 (.aD 4) 31 false,qg 33 (.aF .gtr 32 (.c (.rv (.one (.aa (.val (.int .u8 (122)))))))) 31 false,qu 34 (.pick 31 (qb true) 33),qm 35 34,qg 36 (.aD 4) 35 true,qg 37 (.aF .lss 36 (.c (.rv (.one (.aa (.val (.int .u8 (48)))))))) 35 true,qg 38 (.aD 37) 35 true,qg 39 (.aD 4) 38 false,qg 40 (.aF .gtr 39 (.c (.rv (.one (.aa (.val (.int .u8 (57)))))))) 38 false,qg 41 (.pick 38 (qb true) 40) 35 true,qu 42 (.pick 35 41 (qb false)),qm 43 42,qg 44 (.aD 4) 43 true,qg 45 (.aF .neq 44 (.c (.rv (.one (.aa (.val (.int .u8 (46)))))))) 43 true,qu 46 (.pick 43 45 (qb false)),qm 47 46,qg 48 (.aD 4) 47 true,qg 49 (.aF .neq 48 (.c (.rv (.one (.aa (.val (.int .u8 (95)))))))) 47 true,qu 50 (.pick 47 49 (qb false))]) (.cond 50 (.seq (.ai [qu 2 (.aD (qb false))]) .ret) .skip))))) (.ai [qu 51 (.aF .add 23 (qi 1)),qm 23 51]))))))) (.seq (.ai [qu 2 (.aD (qb true))]) .ret))))⟩
namespace bJ
abbrev dN:=List UInt8
def vT(t:dN):CV:=eM (cz t)
theorem oV(s:ByteArray):∃t:dN,s=cz t:=⟨s.data.toList,rfl⟩
theorem ub(t:dN):(cz t).toList=t:=ByteArray.toList_mk t
theorem kW{a b:dN}{A B:Prop}(ha:a=b->A)(hb:a≠b->B): @Bool.rec (fun _=>Prop) B A ((cz a).toList==(cz b).toList):=by
 rw[ub,ub];cases h:(a==b)
 .exact hb (by simpa using h)
 .exact ha (by simpa using h)
def MA(n:Nat):Bool:=(decide (97<=n)&&decide (n<=122))||(decide (48<=n)&&decide (n<=57))||decide (n=46)||decide (n=95)
def fD(t:dN):Bool:=decide (1<=t.length)&&decide (t.length<=12)&&decide (t≠[46])&&decide (t≠[46,46])&&t.all fun c=>MA c.toNat
theorem Fk{t:dN}{k:Nat}(hk:k<t.length)(h:MA t[k].toNat=false):fD t=false:=by
 have:(t.all fun c=>MA c.toNat)=false:=by
  rw[aci];exact⟨t[k],aau hk,by simp[h]⟩
 simp[fD,this]
theorem Fl{t:dN}(h1:1<=t.length)(h2:t.length<=12)(h3:t≠[46])(h4:t≠[46,46])(h:∀k(hk:k<t.length),MA t[k].toNat=true):fD t=true:=by
 have:(t.all fun c=>MA c.toNat)=true:=by rw[aaW];intro c hc;obtain⟨k,hk,rfl⟩:=List.mem_iff_getElem.1 hc;exact h k hk
 simp[fD,this,h1,h2,h3,h4]
theorem Vp{n:Nat}(h1:¬(97<=n/\n<=122))(h2:¬(48<=n/\n<=57))(h3:n≠46)(h4:n≠95):MA n=false:=by
 have a:¬(97<=n)\/¬(n<=122):=om;have b:¬(48<=n)\/¬(n<=57):=om;unfold MA;rcases a with a|a<;>rcases b with b|b<;>simp[a,b,h3,h4]
theorem Vq{n:Nat}(h:(97<=n/\n<=122)\/(48<=n/\n<=57)\/n=46\/n=95):MA n=true:=by
 unfold MA;rcases h with⟨a,b⟩|⟨a,b⟩|h|h<;>simp_all
theorem l113:bs Tryz.prog Tryz.f113=some c113:=by kernel_rfl
theorem Y1{t:dN}{k:Nat}(hk:k<t.length):cy (cz t).data.toList (k:Nat)=some t[k]:=by rw[bl,oU,aab hk]
theorem fW(t:dN):(((cz t).size:Nat):Int)=t.length:=by rw[mG]
theorem sP(t:dN):body Tryz.prog c113 [vT t] [] (fun r m=>r=ay (fD t)):=by
 refine aB (fun h=>?_) (fun h=>?_)
 .rw[fW]at h;have:fD t=false:=by simp[fD];omega
  rw[this];rfl
 rw[fW]at h;refine aB (fun h2=>?_) (fun h2=>?_)
 .rw[fW]at h2;have:fD t=false:=by simp[fD];omega
  rw[this];rfl
 rw[fW]at h2;refine kW (b:=[46]) (fun h3=>?_) (fun h3=>?_)
 .subst h3;rfl
 refine kW (b:=[46,46]) (fun h4=>?_) (fun h4=>?_)
 .subst h4;rfl
 refine aO (fun k=>k<=t.length/\∀j(hj:j<t.length),j<k->MA t[j].toNat=true) [0] (fun k=>[(22,an .i64 (t.length:Nat)),(23,an .i64 (k:Nat))]) (fun _=>[]) (fun k=>t.length-k) 0 ⟨aao _,fun j _ h=>absurd h (aaL _)⟩ ?_ (fun k hk=>?_)
 .refine View.o 0 [] [] ?_ (.nil _);repeat(first|exact .nil|refine .ap ?_|refine .eq rfl ?_|refine .put (.aQ (by rw[fW];rfl)) ?_)
 obtain⟨hk,fl⟩:k<=t.length/\∀j(hj:j<t.length),j<k->MA t[j].toNat=true:=hk;refine aB (fun h5=>?_) (fun h5=>?_)
 .have aC:k<t.length:=by have h5:(k:Int)<(t.length:Int):=h5;omega
  refine ag (Y1 aC) ?_;repeat' first|refine aB (fun _=>?_) (fun _=>?_)|refine br (fun _=>?_) (fun _=>?_)
  all_goals first
   |(show ay false=ay (fD t)
     rw[Fk aC (Vp om om om om)])
   |(refine⟨k+1,⟨aC,fun j hj hjk=>?_⟩,(show t.length-(k+1)<t.length-k by omega),View.o 0 [] [] ?_ (.nil _)⟩
     .rcases aaq j k with h|h
      .exact fl j hj h
      .have:j=k:=om;subst this;exact Vq om
     .repeat(first|exact .nil|refine .ap ?_|refine .put (.aQ (aq om).symm) ?_|refine .eq rfl ?_))
 .show ay true=ay (fD t);have h5:¬(k:Int)<(t.length:Int):=h5;rw[Fl om om h3 h4 fun j hj=>fl j hj om]
theorem Au(t:dN){m:Mem}{K:CV->Mem->Prop}(h:K (ay (fD t)) m):ar Tryz.prog 113 [vT t] m K:=
 bm Tryz.func113 l113 rfl (aak rfl) (sP t) rfl rfl h
end bJ
def c73:LF:= ⟨37,[.cell false 1 2,.cell false 1 3,.cell false 1 4],(.seq (.ai [qu 2 (.alloc [.aI]),qu 3 (.alloc [(.aa (.val (.bool false)))]),qu 4 (.alloc [(qd 0)])]) (.seq (.seq (.ai [qm 7 0,qu 8 (.aF .eql 7 (.c (.rv (.one (.aa (.val (.string ⟨#[]⟩)))))))]) (.cond 8 (.seq (.ai [qw (.store 1 2 qe),qw (.store 1 3 (qb false)),qw (.store 1 4 (qi 2))]) .ret) .skip)) (.seq (.seq (.ai [qm 9 0,qu 10 (.len 0 9),qu 11 (.aF .gtr 10 (qi 60))]) (.cond 11 (.seq (.ai [qw (.store 1 2 qe),qw (.store 1 3 (qb false)),qw (.store 1 4 (qi 4))]) .ret) .skip)) (.seq (.ai [qu 5 (.alloc [.aI])]) (.seq (.seq (.ai [qm 12 0,qu 13 (qc 112 [12,(.c (.rv (.one (.aa (.val (.string ⟨#[47]⟩))))))])]) (.block 0 (.xL 13 14 (.ai [qm 6 14]) (.block 1 (.block 2 (.seq (.ai [qm 16 6,qu 17 (.aF .eql 16 (.c (.rv (.one (.aa (.val (.string ⟨#[]⟩))))))),qm 18 17,qg 19 (.aD 6) 18 false,qg 20 (.aF .eql 19 (.c (.rv (.one (.aa (.val (.string ⟨#[46]⟩))))))) 18 false,qu 21 (.pick 18 (qb true) 20),qm 15 21]) (.cond 15 .skip (.seq (.ai [qm 23 6,qu 24 (.aF .eql 23 (.c (.rv (.one (.aa (.val (.string ⟨#[46,46]⟩))))))),qm 25 24,qg 26 (.aD 6) 25 false,qg 27 (qc 113 [26]) 25 false,qu 28 (.pick 25 (qb true) 27),qm 22 28]) (.cond 22 (.ai [ql 29 5,qm 30 6,qu 31 (.mh 1 [(.aa (.val (.string ⟨#[]⟩)))] 1 [(0,30)]),qu 32 (.nO 1 16 29 31),qw (.store 1 5 32)]) (.seq (.ai [qw (.store 1 2 qe),qw (.store 1 3 (qb false)),qw (.store 1 4 (qi 7))]) .ret)))))))))) (.seq (.bQ [ql 33 5,qm 34 0,qu 35 (.Bv 34 (qi 0)),qu 36 (.aF .eql 35 (.c (.rv (.one (.aa (.val (.int .u8 (47)))))))),qw (.store 1 2 33),qw (.store 1 3 36),qw (.store 1 4 (qi 0))] [(.cons 0 none (.cons 1 none (.cons 2 none (.cons 3 none (.cons 4 (some []) (.cons 5 (some []) (.cons 6 (some []) .nil)))))))]) .ret))))))⟩
def c112:LF:= ⟨8,[.tmp 4],(.seq (.ai [qu 4 (.aD (.c (.rv (.one (.aa (.val .nilFunc))))))]) (.seq (.ai [qm 5 0,qm 6 1,qu 7 (qc 138 [5,6,(qi 0)]),qm 4 7]) .ret))⟩
def c138:LF:= ⟨8,[.tmp 6],(.seq (.ai [qu 3 (.box 0),qu 4 (.box 1),qu 5 (.box 2),qu 6 (.aD (.c (.rv (.one (.aa (.val .nilFunc))))))]) (.seq (.ai [qu 7 (.fn 154 [4,3,5]),qm 6 7]) .ret))⟩
namespace bJ
theorem l138:bs Tryz.prog Tryz.f138=some c138:=by kernel_rfl
theorem l112:bs Tryz.prog Tryz.f112=some c112:=by kernel_rfl
def Vr(s:ByteArray):Bk:= .var [.aa (.val (.string s))]
def sqM(s sep:ByteArray)(b0 b1 b2 b3:Bk):Mem:=[b0,b1,b2,b3,Vr s,Vr sep,.var [.aa (.val (.int .i64 0))]]
theorem Y2(s sep:ByteArray){b0 b1 b2 b3:Bk}{K:CV->Mem->Prop}(h:K (.rv (.one (.fn 154 [5,4,6]))) (sqM s sep b0 b1 b2 b3)):ar Tryz.prog 138 [eM s,eM sep,an .i64 0] [b0,b1,b2,b3] K:=
 aZ Tryz.func138 l138 h
theorem Y3(s sep:ByteArray){b0 b1 b2 b3:Bk}{K:CV->Mem->Prop}(h:K (.rv (.one (.fn 154 [5,4,6]))) (sqM s sep b0 b1 b2 b3)):ar Tryz.prog 112 [eM s,eM sep] [b0,b1,b2,b3] K:=by refine aZ Tryz.func112 l112 ?_;exact Y2 s sep h
theorem wj(c:UInt8):∀t:dN,(gx c t).length<=t.length+1
 | []=>by simp[gx]
 |x::r=>by
  have ih:=wj c r;simp only[gx];split
  .simp;exact ih
  .split
   .simp
   .rename_i h;rw[h]at ih;simp at ih⊢;omega
theorem cD(a b:List (List Dt)):af (a++b)=af a++af b:=by simp[af]
theorem Pj(c:UInt8)(r:dN):decide ((c::r)[0]? =some 47)=((c.toNat:Int)==47):=by
 by_cases h:c=47
 .subst h;rfl
 .have h2:(c.toNat:Int)≠47:=by
   intro e;have e2:c.toNat=(47:UInt8).toNat:=by show c.toNat=47;omega
   exact h (UInt8.toNat_inj.1 e2)
  simp[h,h2]
theorem l73:bs Tryz.prog Tryz.f73=some c73:=by kernel_rfl
def tD(t:dN):List Dt:=[.val (.string (cz t))]
def Xi(l:List dN):Dt:= .sl 1 (l.map tD)
def txV(l:List dN):CV:= .rv (.one (.aa (Xi l)))
def ru(w:dN):Bool:= !(decide (w=[])||decide (w=[46]))
def rx(w:dN):Bool:=decide (w=[])||decide (w=[46])||decide (w=[46,46])||fD w
def Av(t:dN):List dN:=(gx 47 t).filter ru
def cG(t:dN):List dN×Bool×Int:=
 if t=[]then([],false,2)else if 60<t.length then([],false,4)else if(gx 47 t).all rx then(Av t,decide (t[0]? =some 47),0)else([],false,7)
def Sq(p:List dN×Bool×Int):CV:= .bF [.one (.aa (Xi p.1)),.one (.aa (.val (.bool p.2.1))),.one (.aa (.val (.int .i64 p.2.2)))]
def pt(id:Nat):CV:= .rv (.one (.ptr id 0))
def Pk(t:dN):List CV:=vT t:: .ap::pt 0::pt 1::pt 2::pt 3::gg 31 .ap
def Sr:List dN->Mem
 | []=>[.var [.aI],.var [.aa (.val (.bool false))],.var [.aa (.val (.int .i64 0))],.var [.aI]]
 |x::r=>[.var [.aI],.var [.aa (.val (.bool false))],.var [.aa (.val (.int .i64 0))],.var [.row 4 1 0 none],.row 1 (af ((x::r).map tD))]
theorem Fm{c:UInt8}{t:dN}{k:Nat}{y:ByteArray}(h:(gT c (cz t))[k]? =some y):∃w,(gx c t)[k]? =some w/\y=cz w:=by
 simp only[gT,oU,aaf]at h;cases hc:(gx c t)[k]? with
 |none=>rw[hc]at h;cases h
 |some w=>rw[hc]at h;cases h;exact⟨w,rfl,rfl⟩
theorem lX{m:Mem}{c:CC}{l:List dN}{b:Bool}{e:Int}(h:eI m c (.aa (Xi l))):cJ m (.bF [.one c,.one (.aa (.val (.bool b))),.one (.aa (.val (.int .i64 e)))]) (Sq (l,b,e)):=by
 refine .bF rfl fun i r r' h1 h2=>?_
 match i with
 |0=>cases h1;cases h2;exact .one h
 |1=>cases h1;cases h2;exact .one (.aa _)
 |2=>cases h1;cases h2;exact .one (.aa _)
 |n+3=>simp at h1
theorem Fo(t:dN):body Tryz.prog c73 [vT t] [] (fun r m=>cJ m r (Sq (cG t))):=by
 refine kW (b:=[]) (fun h=>?_) (fun h0=>?_)
 .subst h;exact lX (.aI 1)
 refine aB (fun h=>?_) (fun h1=>?_)
 .rw[fW]at h;have:cG t=([],false,4):=by rw[cG,if_neg h0,if_pos om]
  rw[this];exact lX (.aI 1)
 rw[fW]at h1;refine Y3 (cz t) ⟨#[47]⟩ ?_;refine⟨154,[5,4,6],[.string ⟨#[47]⟩,.string (cz t),.int .i64 0],gT 47 (cz t),List dN,fun k out=>out=((gx 47 t).take k).filter ru/\((gx 47 t).take k).all rx=true,fun out=>⟨Pk t,Sr out⟩,rfl,
  ⟨⟨rfl,rfl⟩,⟨rfl,rfl⟩,⟨rfl,rfl⟩,trivial⟩,⟨by decide,aG⟩,Jb (cz t) 47 (by rw[fW];omega),⟨[],⟨aG,aG⟩,?_⟩,?_,?_⟩
 .refine View.o1 7 [0,1,2,3] [] ?_
  .repeat(first|exact .nil _|refine .put (by simp[bq]) rfl (.eq rfl aG) ?_)
 .intro k y out hk hJ;obtain⟨w,hw,rfl⟩:=Fm hk;obtain⟨ho,hg⟩:=hJ;have L5:(gx 47 t).take (k+1)=(gx 47 t).take k++ [w]:=by rw[aa8,hw];rfl
  have skip:w=[]\/w=[46]->out=((gx 47 t).take (k+1)).filter ru/\((gx 47 t).take (k+1)).all rx=true:=by
   intro h;rw[L5,acE,List.all_append,<-ho,hg];rcases h with rfl|rfl<;>simp[ru,rx]
  have eH:w≠[]->w≠[46]->(w=[46,46]\/fD w=true)->out++ [w]=((gx 47 t).take (k+1)).filter ru/\((gx 47 t).take (k+1)).all rx=true:=by
   intro h1 h2 h3;rw[L5,acE,List.all_append,<-ho,hg];rcases h3 with rfl|h3
   .simp[ru,rx]
   .simp[ru,rx,h1,h2,h3]
  have bad:w≠[]->w≠[46]->w≠[46,46]->fD w=false->cG t=([],false,7):=by
   intro h1 h2 h3 h4;have:(gx 47 t).all rx=false:=by
    rw[aci];exact⟨w,aag hw,by simp[rx,h1,h2,h3,h4]⟩
   rw[cG,if_neg h0,if_neg om,this];rfl
  have hlen:out.length<=61:=by
   rw[ho];have h2:=abJ ru ((gx 47 t).take k);have h3:=wj 47 t;have h4:((gx 47 t).take k).length<=(gx 47 t).length:=by rw[aaz];omega
   omega
  clear ho hg L5 hk;cases out with
  |nil=>
   have dK:View 0 ⟨Pk t,Sr []⟩ ⟨Pk t,Sr []⟩:=by
    refine View.o1 4 [0,1,2,3] [] ?_
    .repeat(first|exact .nil _|refine .put (by simp[bq]) rfl (.eq rfl aG) ?_)
   have fS:∀m,m=([.var [.aI],.var [.aa (.val (.bool false))],.var [.aa (.val (.int .i64 0))],.var [.row 5 1 0 none],.bh,.row 1 ([]++ [[.aa (.val (.string (cz w)))]])]:Mem)->View 0 ⟨Pk t,m⟩ ⟨Pk t,Sr ([]++ [w])⟩:=by
    rintro m rfl;refine View.o1 6 [0,1,2,3,5] [] ?_
    .repeat(first|exact .nil _|refine .put (by simp[bq]) rfl (.eq rfl aG) ?_)
   refine kW (b:=[]) (fun e1=>?_) (fun e1=>?_)
   .exact⟨[],skip (.inl e1),dK⟩
   refine kW (b:=[46]) (fun e2=>?_) (fun e2=>?_)
   .exact⟨[],skip (.inr e2),dK⟩
   refine kW (b:=[46,46]) (fun e3=>?_) (fun e3=>?_)
   .exact⟨(show 1*16<=140737488355328 by omega),_,eH e1 e2 (.inl e3),fS _ rfl⟩
   .refine Au w ?_;refine aE (fun e4=>?_) (fun e4=>?_)
    .exact⟨(show 1*16<=140737488355328 by omega),_,eH e1 e2 (.inr e4),fS _ rfl⟩
    .rw[bad e1 e2 e3 e4];exact lX (.aI 1)
  |cons x r=>
   have dK:View 0 ⟨Pk t,Sr (x::r)⟩ ⟨Pk t,Sr (x::r)⟩:=by
    refine View.o1 5 [0,1,2,3,4] [] ?_
    .refine .put (by simp[bq]) rfl (.eq rfl aG) (.put (by simp[bq]) rfl (.eq rfl aG) (.put (by simp[bq]) rfl (.eq rfl aG) (.put (by simp[bq]) rfl (.eq rfl aG) (.put (by simp[bq]) rfl (.bV rfl) (.nil _)))))
   have fS:∀m,m=([.var [.aI],.var [.aa (.val (.bool false))],.var [.aa (.val (.int .i64 0))],.var [.row 6 1 0 none],.bh,.bh,.row 1 (af ((x::r).map tD)++ [[.aa (.val (.string (cz w)))]])]:Mem)->View 0 ⟨Pk t,m⟩ ⟨Pk t,Sr ((x::r)++ [w])⟩:=by
    rintro m rfl;refine View.o1 7 [0,1,2,3,6] [] ?_
    .refine .put (by simp[bq]) rfl (.eq rfl aG) (.put (by simp[bq]) rfl (.eq rfl aG) (.put (by simp[bq]) rfl (.eq rfl aG) (.put (by simp[bq]) rfl (.eq rfl aG) (.put (by simp[bq]) rfl (.bV ?_) (.nil _)))))
     show _=af (((x::r)++ [w]).map tD);rw[aaU,cD];rfl
   have rR:((af ((x::r).map tD)).length+1)*16<=140737488355328:=by simp[af];simp at hlen;omega
   refine kW (b:=[]) (fun e1=>?_) (fun e1=>?_)
   .exact⟨_,skip (.inl e1),dK⟩
   refine kW (b:=[46]) (fun e2=>?_) (fun e2=>?_)
   .exact⟨_,skip (.inr e2),dK⟩
   refine kW (b:=[46,46]) (fun e3=>?_) (fun e3=>?_)
   .exact⟨rR,_,eH e1 e2 (.inl e3),fS _ rfl⟩
   .refine Au w ?_;refine aE (fun e4=>?_) (fun e4=>?_)
    .exact⟨rR,_,eH e1 e2 (.inr e4),fS _ rfl⟩
    .rw[bad e1 e2 e3 e4];exact lX (.aI 1)
 .intro out hJ;obtain⟨ho,hg⟩:=hJ;have gE:(gT 47 (cz t)).length=(gx 47 t).length:=by simp[gT]
  rw[gE,aaO]at ho hg;have hs:cG t=(out,decide (t[0]? =some 47),0):=by rw[cG,if_neg h0,if_neg om,hg];simp[Av,ho]
  rw[hs];obtain⟨c,r,rfl⟩:∃c r,t=c::r:=by
   cases t with
   |nil=>exact absurd rfl h0
   |cons c r=>exact⟨c,r,rfl⟩
  have hc:decide ((c::r)[0]? =some 47)=((c.toNat:Int)==47):=Pj c r;cases out with
  |nil=>
   rw[hc];refine⟨trivial,trivial,trivial,?_⟩;exact lX (l:=[]) (c:= .aI) (.aI 1)
  |cons x r=>
   rw[hc];refine⟨trivial,trivial,trivial,?_⟩;exact lX (l:=x::r) (c:= .row 4 1 0 none) (eI.eE (ds:=(x::r).map tD) rfl 0 none)
theorem wm(t:dN){m:Mem}{K:CV->Mem->Prop}(h:K (Sq (cG t)) m):ar Tryz.prog 73 [vT t] m K:=
 bb (aZ Tryz.func73 l73 (Fo t)) (by simp[vT,eM,CV.dx,CC.dx]) fun r m1 hf=>⟨_,hf,h⟩
end bJ
namespace bJ
theorem bc(l:List (List Dt)):(af l).length=l.length:=by simp[af]
end bJ
end Go.Proofs.YtojhmadmlnfpcaaGreatDoor
