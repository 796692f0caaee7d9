/- Texts as bytes: parts, sums, equality. -/
import Derived.Test.YtpaijbpenjjmkaaWMore
import Derived.Laws.Strings
namespace Go.Proofs.Ytpaijbpenjjmkaa.Ev
open Go.RowKit Go.Proofs.YtpaijbpenjjmkaaW.PrintWords
set_option linter.unusedVariables false
set_option linter.unusedSimpArgs false

theorem bt_eq (s : ByteArray) {i : Int} (h0 : 0 ≤ i) (h : i < s.size) : ∃ h' : i.toNat < s.size, bt s i = (s[i.toNat]'h').toNat := by
  have h' : i.toNat < s.size := by omega
  exact ⟨h', by unfold bt; rw [dif_pos h']⟩
theorem str_ext {a b : ByteArray} (hl : a.size = b.size) (h : ∀ i : Int, 0 ≤ i → i < a.size → bt a i = bt b i) : a = b := by
  apply ByteArray.ext_getElem hl
  intro i h1 h2
  have := h i (by omega) (by omega)
  unfold bt at this
  rw [dif_pos (by simpa using h1), dif_pos (by simpa using h2)] at this
  exact UInt8.toNat_inj.1 (by exact_mod_cast this)
theorem toList_data (a : ByteArray) : a.toList = a.data.toList := ByteArray.toList_eq a
theorem toList_inj {a b : ByteArray} : a.toList = b.toList ↔ a = b := by
  rw [toList_data, toList_data]
  constructor
  · intro h
    obtain ⟨⟨x⟩⟩ := a
    obtain ⟨⟨y⟩⟩ := b
    simp only at h
    subst h; rfl
  · intro h; rw [h]
theorem bt_cat_left (a b : ByteArray) {i : Int} (h : i.toNat < a.size) : bt (a ++ b) i = bt a i := by
  unfold bt
  rw [dif_pos (by rw [ByteArray.size_append]; omega), dif_pos h, ByteArray.getElem_append_left h]
theorem bt_cat_right (a b : ByteArray) {i : Int} (h : a.size ≤ i) : bt (a ++ b) i = bt b (i - a.size) := by
  unfold bt
  by_cases hb : (i - a.size).toNat < b.size
  · rw [dif_pos (by rw [ByteArray.size_append]; omega), dif_pos hb]
    rw [ByteArray.getElem_append_right (by omega)]
    congr 2
    congr 1
    omega
  · rw [dif_neg (by rw [ByteArray.size_append]; omega), dif_neg hb]
theorem ext_size (s : ByteArray) {a b : Int} (h0 : 0 ≤ a) (h1 : a ≤ b) (h2 : b ≤ s.size) : ((s.extract a.toNat b.toNat).size : Int) = b - a := by
  rw [ByteArray.size_extract]; omega
theorem bt_ext (s : ByteArray) {a b i : Int} (h0 : 0 ≤ a) (h1 : 0 ≤ i) (h2 : i < b - a) (h3 : b ≤ s.size) : bt (s.extract a.toNat b.toNat) i = bt s (a + i) := by
  unfold bt
  rw [dif_pos (by rw [ByteArray.size_extract]; omega), dif_pos (by omega), ByteArray.getElem_extract]
  congr 2
  congr 1
  omega
theorem bt_out (s : ByteArray) {i : Int} (h : s.size ≤ i) : bt s i = 0 := by
  unfold bt
  rw [dif_neg (by omega)]
end Go.Proofs.Ytpaijbpenjjmkaa.Ev
