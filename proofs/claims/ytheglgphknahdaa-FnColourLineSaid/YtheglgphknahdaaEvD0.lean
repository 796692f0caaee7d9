/- What the printed functions answer, part D0: a drawn text that is never invalid. -/
import Derived.Test.YtheglgphknahdaaEvD
import Derived.Test.YtheglgphknahdaaEvA
import Derived.Test.YtheglgphknahdaaEvS
namespace Go.Proofs.Ytheglgphknahdaa.Ev
open Go.RowKit Go.Proofs.Ytheglgphknahdaa.X Go.Proofs.Ytheglgphknahdaa.Wp Go.Proofs.YtheglgphknahdaaW.PrintWords
set_option linter.unusedVariables false
set_option linter.unusedSimpArgs false

/-- All bytes may stand in a text. -/
def OKS (s : ByteArray) : Prop := ∀ j : Int, 0 ≤ j → j < s.size → okB (bt s j)
theorem OKS_of {s : ByteArray} (h : s.data.toList.all (fun c => c.toNat == 10 || (decide (32 ≤ c.toNat) && decide (c.toNat ≤ 126))) = true) : OKS s := by
  intro j h0 h1
  obtain ⟨h2, e⟩ := bt_eq s h0 h1
  rw [e]
  have hm : s[j.toNat]'h2 ∈ s.data.toList := by
    rw [Array.mem_toList_iff]
    exact Array.getElem_mem h2
  have := List.all_eq_true.1 h _ hm
  simp only [Bool.or_eq_true, beq_iff_eq, Bool.and_eq_true, decide_eq_true_eq] at this
  unfold okB
  omega
theorem OKS_cat {a b : ByteArray} (ha : OKS a) (hb : OKS b) : OKS (a ++ b) := by
  intro j h0 h1
  rw [ByteArray.size_append] at h1
  by_cases c : j < a.size
  · rw [bt_cat_left _ _ (by omega)]; exact ha j h0 c
  · rw [bt_cat_right _ _ (by omega)]; exact hb _ (by omega) (by omega)
theorem OKS_ext {s : ByteArray} (h : OKS s) {a b : Int} (h0 : 0 ≤ a) (h1 : a ≤ b) (h2 : b ≤ s.size) : OKS (s.extract a.toNat b.toNat) := by
  intro j j0 j1
  rw [ext_size s h0 h1 h2] at j1
  rw [bt_ext s h0 j0 j1 h2]
  exact h _ (by omega) (by omega)
theorem rdOf_all {parts : List ByteArray} {P : ByteArray → Prop} (h : ∀ x ∈ parts, P x) (he : P ByteArray.empty) (i : Int) : P (rdOf ByteArray.empty parts i) := by
  unfold rdOf
  rw [List.getD_eq_getElem?_getD]
  cases hx : parts[i.toNat]? with
  | none => exact he
  | some y => exact h y (List.mem_of_getElem? hx)
theorem OKS_empty : OKS ByteArray.empty := OKS_of rfl

theorem oddW0 {b : List Int} {p n : Int} (hn : n ≤ 0) : W (fun k => spec_l20Rd_odd.f k b p n) (fun r => r = (false, p)) := by
  unfold spec_l20Rd_odd.f
  exact W.neg (by omega) (W.ret rfl)

theorem textW0 {b : List Int} {p n : Int} (hb : RB b) (hp : 0 ≤ p) (hp2 : p ≤ 1000000) (hn : n ≤ 0) : W (fun k => spec_l20Text.f k b p n) (fun r => VT r.1 ∧ p ≤ r.2 ∧ r.2 ≤ p + 30) := by
  unfold spec_l20Text.f
  refine W.bind (pickW hb hp (by omega) (by omega)) (fun a ha => ?_)
  obtain ⟨a1, a2⟩ := a
  dsimp only at ha ⊢
  obtain ⟨parts, hparts, hlen, hsz, hok⟩ : ∃ parts : List ByteArray, parts = [(⟨#[97]⟩ : ByteArray), (⟨#[98]⟩ : ByteArray), (⟨#[97, 98]⟩ : ByteArray), (⟨#[119, 111, 114, 100]⟩ : ByteArray), (⟨#[120, 49]⟩ : ByteArray), (⟨#[32]⟩ : ByteArray), (⟨#[32]⟩ : ByteArray), (⟨#[32, 32]⟩ : ByteArray), (⟨#[10]⟩ : ByteArray), (⟨#[10]⟩ : ByteArray), (⟨#[10, 32, 32]⟩ : ByteArray), (⟨#[40]⟩ : ByteArray), (⟨#[41]⟩ : ByteArray), (⟨#[91, 97, 93]⟩ : ByteArray), (⟨#[123, 99, 125]⟩ : ByteArray), (⟨#[123]⟩ : ByteArray), (⟨#[125]⟩ : ByteArray), (⟨#[46]⟩ : ByteArray), (⟨#[34]⟩ : ByteArray), (⟨#[34, 115, 34]⟩ : ByteArray), (⟨#[55]⟩ : ByteArray), (⟨#[102, 111, 111, 32, 98, 97, 114]⟩ : ByteArray), (⟨#[92]⟩ : ByteArray), (⟨#[97, 97]⟩ : ByteArray)] ∧ parts.length = 24 ∧ (∀ x ∈ parts, x.size ≤ 7) ∧ ∀ x ∈ parts, OKS x := ⟨_, rfl, rfl, by
    intro x hx
    simp only [List.mem_cons, List.mem_nil_iff, or_false] at hx
    rcases hx with rfl | rfl | rfl | rfl | rfl | rfl | rfl | rfl | rfl | rfl | rfl | rfl | rfl | rfl | rfl | rfl | rfl | rfl | rfl | rfl | rfl | rfl | rfl | rfl <;> decide, by
    intro x hx
    simp only [List.mem_cons, List.mem_nil_iff, or_false] at hx
    rcases hx with rfl | rfl | rfl | rfl | rfl | rfl | rfl | rfl | rfl | rfl | rfl | rfl | rfl | rfl | rfl | rfl | rfl | rfl | rfl | rfl | rfl | rfl | rfl | rfl <;> exact OKS_of rfl⟩
  rw [← hparts]
  refine W.loop (l := fun (z : ByteArray × Int × Int) k => spec_l20Text.l0 k n z.1 parts z.2.1 b z.2.2) (P := fun _ r => VT r.1 ∧ p ≤ r.2 ∧ r.2 ≤ p + 30) (fun z => (z.1.size + 7 * z.2.1 ≤ 161 ∧ z.2.1 ≤ 23 ∧ -1 ≤ z.2.1 ∧ p ≤ z.2.2 ∧ z.2.2 + z.2.1 ≤ p + 24) ∧ OKS z.1) (fun z => z.2.1.toNat) ?_ (⟨#[]⟩, a1, a2) ⟨⟨by show 0 + 7 * a1 ≤ 161; omega, by dsimp only; omega, by dsimp only; omega, by dsimp only; omega, by dsimp only; omega⟩, OKS_empty⟩
  rintro ⟨s, c, q⟩ ⟨⟨h1, h2, h3, h4, h5⟩, h6⟩ ih
  dsimp only at h1 h2 h3 h4 h5 h6 ⊢
  refine W.step (fun k => spec_l20Text.l0.eq_2 ..) (W.ite (fun hc => ?_) (fun hc => ?_))
  · refine W.bind (pickW hb (by omega) (by omega) (by omega)) (fun d hd => ?_)
    have hr := rdOf_size hsz d.1
    have ho := rdOf_all hok OKS_empty d.1
    rw [w64 (x := c - 1) (by omega) (by omega)]
    refine W.pos hd.1 (W.pos (by omega) (W.pos (by omega) (ih (_, c - 1, d.2) ⟨⟨?_, ?_, ?_, ?_, ?_⟩, OKS_cat h6 ho⟩ ?_)))
    · dsimp only; rw [ByteArray.size_append]; omega
    all_goals (dsimp only; omega)
  · have hmn : mn (s.size : Int) 120 ≤ s.size ∧ 0 ≤ mn (s.size : Int) 120 ∧ mn (s.size : Int) 120 ≤ 120 := by unfold mn; split <;> omega
    have hsz2 : (s.extract 0 (mn (s.size : Int) 120).toNat).size ≤ 120 := by rw [ByteArray.size_extract]; omega
    have hok2 := OKS_ext h6 (a := 0) (b := mn (s.size : Int) 120) (by omega) (by omega) hmn.1
    exact W.pos hmn.2.1 (W.pos hmn.1 (W.bind_eq (oddW0 hn) (W.neg (by simp) (W.ret ⟨⟨hsz2, hok2⟩, by dsimp only; omega, by dsimp only; omega⟩))))
end Go.Proofs.Ytheglgphknahdaa.Ev
