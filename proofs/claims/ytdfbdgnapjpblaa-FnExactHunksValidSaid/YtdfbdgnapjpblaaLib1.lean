/- Contracts of functions of Go's library, in the printed functions' form: strings.IndexByte, strings.Count, strings.Contains strings.Index and strings.TrimLeft at one byte (strings.explode: nowhere), where the translation has them. -/
import Derived.Test.YtdfbdgnapjpblaaShelf
import Derived.Test.YtdfbdgnapjpblaaWMore
namespace Go.Proofs.Ytdfbdgnapjpblaa.X
open Go.RowKit Go.Proofs.YtdfbdgnapjpblaaW.PrintWords
set_option linter.unusedVariables false

theorem one_byte {s : ByteArray} (h : s.size = 1) : ∃ c, s = ⟨#[c]⟩ := by
  obtain ⟨⟨l⟩⟩ := s
  match l, h with
  | [c], _ => exact ⟨c, rfl⟩
def strings_Count.f (a0 : ByteArray) (a1 : ByteArray) : Option Int := if a1.size = 1 then some (Lib.countByte a0.data.toList (bt a1 0).toNat.toUInt8) else none
theorem strings_Count.calls (a0 : ByteArray) (a1 : ByteArray) (r : Int) (w : World) (h : strings_Count.f a0 a1 = some r) :
    Calls Try.prog 28 #[.string a0, .string a1] w fun e w' => e = .returned (.int .i64 r) ∧ Drawn0 w w' := by
  unfold strings_Count.f at h
  split at h
  · rename_i h1
    obtain ⟨c, rfl⟩ := one_byte h1
    obtain rfl := Option.some.inj h
    have hc : (bt ⟨#[c]⟩ 0).toNat.toUInt8 = c := by
      show (((c.toNat : Nat) : Int)).toNat.toUInt8 = c
      simp
    rw [hc]
    exact (Try.strings_Count_one a0 c w).mono fun e w' ⟨he, hw⟩ => ⟨he, hw ▸ Drawn0.refl w⟩
  · cases h
def strings_Contains.f (a0 : ByteArray) (a1 : ByteArray) : Option Bool := if a1.size = 1 then some (decide (0 ≤ Lib.indexByte a0.data.toList (bt a1 0).toNat.toUInt8)) else none
theorem strings_Contains.calls (a0 : ByteArray) (a1 : ByteArray) (r : Bool) (w : World) (h : strings_Contains.f a0 a1 = some r) :
    Calls Try.prog 20 #[.string a0, .string a1] w fun e w' => e = .returned (.bool r) ∧ Drawn0 w w' := by
  unfold strings_Contains.f at h
  split at h
  · rename_i h1
    obtain ⟨c, rfl⟩ := one_byte h1
    obtain rfl := Option.some.inj h
    have hc : (bt ⟨#[c]⟩ 0).toNat.toUInt8 = c := by
      show (((c.toNat : Nat) : Int)).toNat.toUInt8 = c
      simp
    rw [hc]
    exact (Try.strings_Contains_one a0 c w).mono fun e w' ⟨he, hw⟩ => ⟨he, hw ▸ Drawn0.refl w⟩
  · cases h
def strings_Index.f (a0 : ByteArray) (a1 : ByteArray) : Option Int := if a1.size = 1 then some (Lib.indexByte a0.data.toList (bt a1 0).toNat.toUInt8) else none
theorem strings_Index.calls (a0 : ByteArray) (a1 : ByteArray) (r : Int) (w : World) (h : strings_Index.f a0 a1 = some r) :
    Calls Try.prog 29 #[.string a0, .string a1] w fun e w' => e = .returned (.int .i64 r) ∧ Drawn0 w w' := by
  unfold strings_Index.f at h
  split at h
  · rename_i h1
    obtain ⟨c, rfl⟩ := one_byte h1
    obtain rfl := Option.some.inj h
    have hc : (bt ⟨#[c]⟩ 0).toNat.toUInt8 = c := by
      show (((c.toNat : Nat) : Int)).toNat.toUInt8 = c
      simp
    rw [hc]
    exact (Try.strings_Index_one a0 c w).mono fun e w' ⟨he, hw⟩ => ⟨he, hw ▸ Drawn0.refl w⟩
  · cases h
end Go.Proofs.Ytdfbdgnapjpblaa.X
