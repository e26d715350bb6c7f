import Derived.Test.YtoohefnephhmbaaDoorAmZ2
import Derived.Test.YtoohefnephhmbaaDoorAmR
import Derived.Test.YtoohefnephhmbaaDoorAmU
import Derived.Test.YtoohefnephhmbaaDoorRows
import Derived.Shelf.Strings.Search3
import Derived.Shelf.Strings.OnBuilder
import Derived.Test.YtoohefnephhmbaaDoorAmY
set_option linter.unusedVariables false
set_option linter.unusedSimpArgs false
namespace Go.Proofs.YtoohefnephhmbaaDoor
open Go.AM Go.ChangeShapes Go.WideShapes Go.ChangeAt Go.RowKit
def Tryd.lays143_ren : Go.Shelf.Ren := ⟨fun | 143 => 51 | 219 => 55 | 217 => 58 | 225 => 59 | 224 => 60 | 267 => 61 | 266 => 62 | 314 => 63 | n => n, fun | 9 => 9 | 3 => 3 | 4 => 4 | 5 => 5 | 46 => 57 | 146 => 86 | 51 => 71 | n => n, fun | 1 => 2 | n => n⟩
set_option maxRecDepth 100000 in
theorem Tryd.lays143 : Go.Proofs.Lays.n143 Tryd.prog Tryd.lays143_ren := {
  mixed := by kernel_rfl,
  f143 := Tryd.func51.trans (congrArg some (by kernel_rfl)),
  f217 := Tryd.func58.trans (congrArg some (by kernel_rfl)),
  f219 := Tryd.func55.trans (congrArg some (by kernel_rfl)),
  f224 := Tryd.func60.trans (congrArg some (by kernel_rfl)),
  f225 := Tryd.func59.trans (congrArg some (by kernel_rfl)),
  f266 := Tryd.func62.trans (congrArg some (by kernel_rfl)),
  f267 := Tryd.func61.trans (congrArg some (by kernel_rfl)),
  f314 := Tryd.func63.trans (congrArg some (by kernel_rfl)),
  t3 := Tryd.underlying3,
  a3 := Tryd.isAgg3,
  z3 := Tryd.sizeOf3,
  v3 := Tryd.zeroValue3,
  t4 := Tryd.underlying4,
  a4 := Tryd.isAgg4,
  z4 := Tryd.sizeOf4,
  v4 := Tryd.zeroValue4,
  t5 := Tryd.underlying5,
  a5 := Tryd.isAgg5,
  z5 := Tryd.sizeOf5,
  v5 := Tryd.zeroValue5,
  t9 := Tryd.underlying9,
  a9 := Tryd.isAgg9,
  z9 := Tryd.sizeOf9,
  v9 := Tryd.zeroValue9,
  t46 := Tryd.underlying57,
  a46 := Tryd.isAgg57,
  z46 := Tryd.sizeOf57,
  v46 := Tryd.zeroValue57,
  t51 := Tryd.underlying71,
  a51 := Tryd.isAgg71,
  z51 := Tryd.sizeOf71,
  v51 := Tryd.zeroValue71,
  t146 := Tryd.underlying86,
  a146 := Tryd.isAgg86,
  z146 := Tryd.sizeOf86,
  v146 := Tryd.zeroValue86,
  g1 := by kernel_rfl }
def Tryd.lays156_ren : Go.Shelf.Ren := ⟨fun | 156 => 40 | 165 => 44 | 166 => 45 | 169 => 46 | 240 => 52 | 241 => 53 | 276 => 56 | 277 => 57 | n => n, fun | 31 => 22 | 9 => 9 | 3 => 3 | 4 => 4 | 0 => 0 | 20 => 20 | 72 => 63 | 76 => 67 | 70 => 60 | 37 => 61 | 75 => 66 | 127 => 77 | 164 => 78 | 5 => 5 | 80 => 69 | n => n, fun | n => n⟩
set_option maxRecDepth 100000 in
theorem Tryd.lays156 : Go.Proofs.Lays.n156 Tryd.prog Tryd.lays156_ren := {
  mixed := by kernel_rfl,
  f156 := Tryd.func40.trans (congrArg some (by kernel_rfl)),
  f165 := Tryd.func44.trans (congrArg some (by kernel_rfl)),
  f166 := Tryd.func45.trans (congrArg some (by kernel_rfl)),
  f169 := Tryd.func46.trans (congrArg some (by kernel_rfl)),
  f240 := Tryd.func52.trans (congrArg some (by kernel_rfl)),
  f241 := Tryd.func53.trans (congrArg some (by kernel_rfl)),
  f276 := Tryd.func56.trans (congrArg some (by kernel_rfl)),
  f277 := Tryd.func57.trans (congrArg some (by kernel_rfl)),
  t0 := Tryd.underlying0,
  a0 := Tryd.isAgg0,
  z0 := Tryd.sizeOf0,
  v0 := Tryd.zeroValue0,
  t3 := Tryd.underlying3,
  a3 := Tryd.isAgg3,
  z3 := Tryd.sizeOf3,
  v3 := Tryd.zeroValue3,
  t4 := Tryd.underlying4,
  a4 := Tryd.isAgg4,
  z4 := Tryd.sizeOf4,
  v4 := Tryd.zeroValue4,
  t9 := Tryd.underlying9,
  a9 := Tryd.isAgg9,
  z9 := Tryd.sizeOf9,
  v9 := Tryd.zeroValue9,
  t20 := Tryd.underlying20,
  a20 := Tryd.isAgg20,
  z20 := Tryd.sizeOf20,
  v20 := Tryd.zeroValue20,
  t31 := Tryd.underlying22,
  a31 := Tryd.isAgg22,
  z31 := Tryd.sizeOf22,
  v31 := Tryd.zeroValue22,
  t37 := Tryd.underlying61,
  a37 := Tryd.isAgg61,
  z37 := Tryd.sizeOf61,
  v37 := Tryd.zeroValue61,
  t70 := Tryd.underlying60,
  a70 := Tryd.isAgg60,
  z70 := Tryd.sizeOf60,
  v70 := Tryd.zeroValue60,
  t72 := Tryd.underlying63,
  a72 := Tryd.isAgg63,
  z72 := Tryd.sizeOf63,
  v72 := Tryd.zeroValue63,
  t75 := Tryd.underlying66,
  a75 := Tryd.isAgg66,
  z75 := Tryd.sizeOf66,
  v75 := Tryd.zeroValue66,
  t76 := Tryd.underlying67,
  a76 := Tryd.isAgg67,
  z76 := Tryd.sizeOf67,
  v76 := Tryd.zeroValue67,
  t127 := Tryd.underlying77,
  a127 := Tryd.isAgg77,
  z127 := Tryd.sizeOf77,
  v127 := Tryd.zeroValue77,
  t164 := Tryd.underlying78,
  a164 := Tryd.isAgg78,
  z164 := Tryd.sizeOf78,
  v164 := Tryd.zeroValue78 }
theorem Tryd.builder : Builder.Extra Tryd.prog Tryd.lays156_ren := {
  sizeBuilder := by kernel_rfl,
  liesBuilder := by kernel_rfl,
  t5 := Tryd.underlying5,
  a5 := Tryd.isAgg5,
  z5 := Tryd.sizeOf5,
  v5 := Tryd.zeroValue5,
  infoByte := by kernel_rfl,
  cellsByte := by kernel_rfl,
  sizeByte := by kernel_rfl,
  neB5 := by decide }
theorem index_one (s : ByteArray) (c : UInt8) (w : World) : Calls Tryd.prog 51 #[.string s, .string ⟨#[c]⟩] w fun e w' => e = .returned (.int .i64 (Lib.indexByte s.data.toList c)) ∧ w' = w :=
  Any.strings_Index_one Tryd.lays143 s c w
theorem join_none (a : Option Addr) (c : Nat) (sep : ByteArray) (w : World) : Calls Tryd.prog 40 #[.slice a 0 c, .string sep] w fun e w' => e = .returned (.string ⟨#[]⟩) ∧ w' = w :=
  Any.strings_Join_none Tryd.lays156 Tryd.builder a c sep w
theorem join_at (bk o c : Nat) (xs : List ByteArray) (sep : ByteArray) (w : World) (hcells : ∀ (j : Nat) x, xs[j]? = some x → w.cell? ⟨bk, o + j, none⟩ = some (.string x))
    (hbk : bk < w.heap.size) (hN : xs.length ≤ 140737488355328) (hcap : xs.length ≤ c) (hlen : (Lib.join (xs.map (·.data.toList)) sep.data.toList).length ≤ 140737488355328) :
    Calls Tryd.prog 40 #[.slice (some ⟨bk, o, none⟩) xs.length c, .string sep] w fun e w' => e = .returned (.string ⟨(Lib.join (xs.map (·.data.toList)) sep.data.toList).toArray⟩) ∧ Below w.heap.size w w' :=
  Any.strings_Join Tryd.lays156 Tryd.builder bk o c xs sep w hcells hbk hN hcap hlen
end Go.Proofs.YtoohefnephhmbaaDoor
