import Derived.Shelf.Utf8.RuneCount
import Derived.Shelf.Strings.Search1
import Derived.Shelf.Strings.Search2
import Derived.Shelf.Strings.Search3
import Derived.Shelf.Strings.Count
import Derived.Shelf.LaysM
import Derived.Shelf.Strings.Shaped
import Derived.Shelf.Strings.Split
import Derived.Shelf.Strings.RuneCount
import Derived.Test.YtdfbdgnapjpblaaProg
namespace Go.Proofs
open Go.Shelf
set_option linter.unusedVariables false
set_option linter.unusedSimpArgs false
def Try.lays143_ren : Go.Shelf.Ren := ⟨fun | 143 => 29 | 219 => 37 | 217 => 43 | 225 => 44 | 224 => 45 | 267 => 46 | 266 => 51 | 314 => 52 | n => n, fun | 9 => 9 | 3 => 3 | 4 => 4 | 5 => 5 | 46 => 71 | 146 => 75 | 51 => 74 | n => n, fun | 1 => 0 | n => n⟩
theorem Try.lays143 : Go.Proofs.Lays.n143 Try.prog Try.lays143_ren := {
  mixed := by kernel_rfl
  f143 := Try.func29.trans (congrArg some (by kernel_rfl))
  f217 := Try.func43.trans (congrArg some (by kernel_rfl))
  f219 := Try.func37.trans (congrArg some (by kernel_rfl))
  f224 := Try.func45.trans (congrArg some (by kernel_rfl))
  f225 := Try.func44.trans (congrArg some (by kernel_rfl))
  f266 := Try.func51.trans (congrArg some (by kernel_rfl))
  f267 := Try.func46.trans (congrArg some (by kernel_rfl))
  f314 := Try.func52.trans (congrArg some (by kernel_rfl))
  t3 := Try.underlying3
  a3 := Try.isAgg3
  z3 := Try.sizeOf3
  v3 := Try.zeroValue3
  t4 := Try.underlying4
  a4 := Try.isAgg4
  z4 := Try.sizeOf4
  v4 := Try.zeroValue4
  t5 := Try.underlying5
  a5 := Try.isAgg5
  z5 := Try.sizeOf5
  v5 := Try.zeroValue5
  t9 := Try.underlying9
  a9 := Try.isAgg9
  z9 := Try.sizeOf9
  v9 := Try.zeroValue9
  t46 := Try.underlying71
  a46 := Try.isAgg71
  z46 := Try.sizeOf71
  v46 := Try.zeroValue71
  t51 := Try.underlying74
  a51 := Try.isAgg74
  z51 := Try.sizeOf74
  v51 := Try.zeroValue74
  t146 := Try.underlying75
  a146 := Try.isAgg75
  z146 := Try.sizeOf75
  v146 := Try.zeroValue75
  g1 := by kernel_rfl }
open Go.RowKit Go.Lib in
theorem Try.strings_Index_one (s : ByteArray) (c : UInt8) (w : World) :
    Calls Try.prog 29 #[.string s, .string ⟨#[c]⟩] w fun e w' => e = .returned (.int .i64 (Lib.indexByte s.data.toList c)) ∧ w' = w := Any.strings_Index_one Try.lays143 s c w
def Try.lays144_ren : Go.Shelf.Ren := ⟨fun | 144 => 20 | 143 => 29 | 219 => 37 | 217 => 43 | 225 => 44 | 224 => 45 | 267 => 46 | 266 => 51 | 314 => 52 | n => n, fun | 9 => 9 | 4 => 4 | 3 => 3 | 5 => 5 | 46 => 71 | 146 => 75 | 51 => 74 | n => n, fun | 1 => 0 | n => n⟩
theorem Try.lays144 : Go.Proofs.Lays.n144 Try.prog Try.lays144_ren := {
  mixed := by kernel_rfl
  f143 := Try.func29.trans (congrArg some (by kernel_rfl))
  f144 := Try.func20.trans (congrArg some (by kernel_rfl))
  f217 := Try.func43.trans (congrArg some (by kernel_rfl))
  f219 := Try.func37.trans (congrArg some (by kernel_rfl))
  f224 := Try.func45.trans (congrArg some (by kernel_rfl))
  f225 := Try.func44.trans (congrArg some (by kernel_rfl))
  f266 := Try.func51.trans (congrArg some (by kernel_rfl))
  f267 := Try.func46.trans (congrArg some (by kernel_rfl))
  f314 := Try.func52.trans (congrArg some (by kernel_rfl))
  t3 := Try.underlying3
  a3 := Try.isAgg3
  z3 := Try.sizeOf3
  v3 := Try.zeroValue3
  t4 := Try.underlying4
  a4 := Try.isAgg4
  z4 := Try.sizeOf4
  v4 := Try.zeroValue4
  t5 := Try.underlying5
  a5 := Try.isAgg5
  z5 := Try.sizeOf5
  v5 := Try.zeroValue5
  t9 := Try.underlying9
  a9 := Try.isAgg9
  z9 := Try.sizeOf9
  v9 := Try.zeroValue9
  t46 := Try.underlying71
  a46 := Try.isAgg71
  z46 := Try.sizeOf71
  v46 := Try.zeroValue71
  t51 := Try.underlying74
  a51 := Try.isAgg74
  z51 := Try.sizeOf74
  v51 := Try.zeroValue74
  t146 := Try.underlying75
  a146 := Try.isAgg75
  z146 := Try.sizeOf75
  v146 := Try.zeroValue75
  g1 := by kernel_rfl }
open Go.RowKit Go.Lib in
theorem Try.strings_Contains_one (s : ByteArray) (c : UInt8) (w : World) :
    Calls Try.prog 20 #[.string s, .string ⟨#[c]⟩] w fun e w' => e = .returned (.bool (decide (0 ≤ Lib.indexByte s.data.toList c))) ∧ w' = w := Any.strings_Contains_one Try.lays144 s c w
def Try.lays138_ren : Go.Shelf.Ren := ⟨fun | 138 => 28 | 195 => 35 | 218 => 36 | 143 => 29 | 219 => 37 | 217 => 43 | 225 => 44 | 224 => 45 | 267 => 46 | 266 => 51 | 314 => 52 | n => n, fun | 9 => 9 | 3 => 3 | 4 => 4 | 5 => 5 | 0 => 0 | 46 => 71 | 146 => 75 | 51 => 74 | n => n, fun | 1 => 0 | n => n⟩
theorem Try.lays138 : Go.Proofs.Lays.n138 Try.prog Try.lays138_ren := {
  mixed := by kernel_rfl
  f138 := Try.func28.trans (congrArg some (by kernel_rfl))
  f143 := Try.func29.trans (congrArg some (by kernel_rfl))
  f195 := Try.func35.trans (congrArg some (by kernel_rfl))
  f217 := Try.func43.trans (congrArg some (by kernel_rfl))
  f218 := Try.func36.trans (congrArg some (by kernel_rfl))
  f219 := Try.func37.trans (congrArg some (by kernel_rfl))
  f224 := Try.func45.trans (congrArg some (by kernel_rfl))
  f225 := Try.func44.trans (congrArg some (by kernel_rfl))
  f266 := Try.func51.trans (congrArg some (by kernel_rfl))
  f267 := Try.func46.trans (congrArg some (by kernel_rfl))
  f314 := Try.func52.trans (congrArg some (by kernel_rfl))
  t0 := Try.underlying0
  a0 := Try.isAgg0
  z0 := Try.sizeOf0
  v0 := Try.zeroValue0
  t3 := Try.underlying3
  a3 := Try.isAgg3
  z3 := Try.sizeOf3
  v3 := Try.zeroValue3
  t4 := Try.underlying4
  a4 := Try.isAgg4
  z4 := Try.sizeOf4
  v4 := Try.zeroValue4
  t5 := Try.underlying5
  a5 := Try.isAgg5
  z5 := Try.sizeOf5
  v5 := Try.zeroValue5
  t9 := Try.underlying9
  a9 := Try.isAgg9
  z9 := Try.sizeOf9
  v9 := Try.zeroValue9
  t46 := Try.underlying71
  a46 := Try.isAgg71
  z46 := Try.sizeOf71
  v46 := Try.zeroValue71
  t51 := Try.underlying74
  a51 := Try.isAgg74
  z51 := Try.sizeOf74
  v51 := Try.zeroValue74
  t146 := Try.underlying75
  a146 := Try.isAgg75
  z146 := Try.sizeOf75
  v146 := Try.zeroValue75
  g1 := by kernel_rfl }
open Go.RowKit Go.Lib in
theorem Try.strings_Count_one (s : ByteArray) (c : UInt8) (w : World) :
    Calls Try.prog 28 #[.string s, .string ⟨#[c]⟩] w fun e w' => e = .returned (.int .i64 (Lib.countByte s.data.toList c)) ∧ w' = w := Any.strings_Count_one Try.lays138 s c w
end Go.Proofs
