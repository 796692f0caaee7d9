/- Texts put into brackets. -/
import Derived.Test.YtbkdfiepdnbeoaaEvA
import Derived.Test.YtbkdfiepdnbeoaaThB2
import Derived.Test.YtbkdfiepdnbeoaaEvB
import Derived.Test.YtbkdfiepdnbeoaaEvS
namespace Go.Proofs.Ytbkdfiepdnbeoaa.Ev
open Go.RowKit Go.Proofs.Ytbkdfiepdnbeoaa.X Go.Proofs.Ytbkdfiepdnbeoaa.Wp Go.Proofs.YtbkdfiepdnbeoaaW.PrintWords Go.Proofs.Ytbkdfiepdnbeoaa.ThB
set_option linter.unusedVariables false
set_option linter.unusedSimpArgs false

theorem wrapped_of (s : ByteArray) (x y : UInt8) (hx : opens x.toNat = true) (hy : want y.toNat = x.toNat) : Wrapped s ((⟨#[x]⟩ ++ s) ++ ⟨#[y]⟩) := by
  have h1 : (⟨#[x]⟩ : ByteArray).size = 1 := rfl
  have h2 : (⟨#[y]⟩ : ByteArray).size = 1 := rfl
  have hz : (⟨#[x]⟩ ++ s : ByteArray).size = 1 + s.size := by rw [ByteArray.size_append, h1]
  have e0 : bt ((⟨#[x]⟩ ++ s) ++ ⟨#[y]⟩) 0 = x.toNat := by
    rw [bt_cat_left _ _ (by rw [hz]; simp; omega), bt_cat_left _ _ (by rw [h1]; decide)]; rfl
  refine ⟨by rw [ByteArray.size_append, hz, h2]; omega, by rw [e0]; exact hx, fun i h0 hi => ?_, ?_⟩
  · rw [bt_cat_left _ _ (by rw [hz]; omega), bt_cat_right _ _ (by rw [h1]; omega), h1]
    congr 1; omega
  · rw [e0, bt_cat_right _ _ (by rw [hz]; omega), hz, show (s.size : Int) + 1 - ((1 + s.size : Nat) : Int) = 0 from by omega]
    exact hy
theorem vt_wrapped {s : ByteArray} {x y : UInt8} (hv : VT s) (hs : s.size ≤ 118) (hx : okB x.toNat) (hy : okB y.toNat) : VT ((⟨#[x]⟩ ++ s) ++ ⟨#[y]⟩) := by
  have h1 : (⟨#[x]⟩ : ByteArray).size = 1 := rfl
  have h2 : (⟨#[y]⟩ : ByteArray).size = 1 := rfl
  have hz : (⟨#[x]⟩ ++ s : ByteArray).size = 1 + s.size := by rw [ByteArray.size_append, h1]
  have hz2 : ((⟨#[x]⟩ ++ s) ++ ⟨#[y]⟩ : ByteArray).size = s.size + 2 := by rw [ByteArray.size_append, hz, h2]; omega
  refine ⟨by omega, fun j h0 hj => ?_⟩
  by_cases c0 : j = 0
  · subst c0
    rw [bt_cat_left _ _ (by rw [hz]; simp; omega), bt_cat_left _ _ (by rw [h1]; decide)]
    exact hx
  · by_cases c1 : j < s.size + 1
    · rw [bt_cat_left _ _ (by rw [hz]; omega), bt_cat_right _ _ (by rw [h1]; omega), h1]
      exact hv.2 _ (by omega) (by omega)
    · rw [bt_cat_right _ _ (by rw [hz]; omega), hz, show j - ((1 + s.size : Nat) : Int) = 0 from by omega]
      exact hy
theorem faultless_of {s : ByteArray} (h : First (faultB s) s.size (-1)) : Faultless s := by
  intro j h0 h1 hb
  rcases h with ⟨_, h⟩ | ⟨h, _⟩
  · have := h j h0 h1
    by_cases hn : 0 ≤ rd (mates s) j
    · exact hn
    · exact absurd ⟨by omega, hb⟩ this
  · omega
theorem first_of {s : ByteArray} (h : Faultless s) : First (faultB s) s.size (-1) :=
  .inl ⟨rfl, fun j h0 h1 hb => by have := h j h0 h1 hb.2; have := hb.1; omega⟩

end Go.Proofs.Ytbkdfiepdnbeoaa.Ev
