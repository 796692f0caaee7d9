/- What the printed functions answer, part MS: lists of texts compared, marked, held. -/
import Derived.Test.YtheglgphknahdaaDoorX17
import Derived.Test.YtheglgphknahdaaDoorWp
import Derived.Test.YtheglgphknahdaaDoorThT
import Derived.Test.YtheglgphknahdaaDoorEvS
namespace Go.Proofs.YtheglgphknahdaaDoor.Ev
open Go.RowKit Go.Proofs.YtheglgphknahdaaDoor.X Go.Proofs.YtheglgphknahdaaDoor.Wp Go.Proofs.YtheglgphknahdaaDoorW.PrintWords Go.Proofs.YtheglgphknahdaaDoor.ThT
set_option linter.unusedVariables false
set_option linter.unusedSimpArgs false

theorem eqStrings (a b : List ByteArray) (ha : a.length ≤ 140737488351232) : W (fun k => laws_eqStringS.f k a b) (fun r => r = true ↔ a = b) := by
  unfold laws_eqStringS.f
  refine W.ite (fun hl => ?_) (fun hl => W.ret ⟨fun h => by simp at h, fun h => absurd (by rw [h]) hl⟩)
  refine W.loop (l := fun i k => laws_eqStringS.l0 k a b i) (P := fun _ r => r = true ↔ a = b) (fun i : Int => 0 ≤ i ∧ i ≤ a.length ∧ ∀ j, 0 ≤ j → j < i → rdOf ByteArray.empty a j = rdOf ByteArray.empty b j) (fun i => (a.length - i).toNat) ?_ 0 ⟨by omega, by omega, fun j h0 h1 => by omega⟩
  intro i ⟨h0, h1, h2⟩ ih
  refine W.step (fun k => laws_eqStringS.l0.eq_2 ..) ?_
  by_cases hlt : i < a.length
  · rw [w64 (x := i + 1) (by omega) (by omega)]
    refine W.pos hlt (W.pos h0 (W.pos (by omega) (W.ite (fun he => ih (i + 1) ⟨by omega, by omega, fun j h3 h4 => ?_⟩ (by omega)) (fun he => W.ret ⟨fun h => by simp at h, fun h => absurd (by rw [h]) he⟩))))
    by_cases e : j = i
    · subst e; exact toList_inj.1 he
    · exact h2 j h3 (by omega)
  · refine W.neg hlt (W.ret ⟨fun _ => rdOf_ext ByteArray.empty (by omega) (fun j h3 h4 => h2 j h3 (by omega)), fun _ => rfl⟩)
theorem eqStrings_true {a b : List ByteArray} (h : a = b) (ha : a.length ≤ 140737488351232) : W (fun k => laws_eqStringS.f k a b) (· = true) := (eqStrings a b ha).mono fun r hr => hr.2 h

theorem strOfNums_one (x : Int) : (strOfNums [x]).size = 1 := rfl
theorem markTextEnds (x : Int) (h : x ≤ 1000000000000000) : W (fun k => laws_markText.f k x) (fun _ => True) := by
  unfold laws_markText.f
  refine W.ite (fun _ => W.ret trivial) (fun hx => ?_)
  refine W.loop (l := fun (z : Int × ByteArray) k => laws_markText.l0 k z.1 z.2) (P := fun _ _ => True) (fun z => 0 ≤ z.1 ∧ z.1 + z.2.size ≤ 1000000000000000) (fun z => z.1.toNat) ?_ (x, ⟨#[]⟩) ⟨by dsimp only; omega, by show x + ((0 : Nat) : Int) ≤ _; omega⟩
  rintro ⟨a, t⟩ ⟨h0, h1⟩ ih
  dsimp only at h0 h1 ⊢
  refine W.step (fun k => laws_markText.l0.eq_2 ..) (W.ite (fun hc => W.name ?_) (fun hc => W.pos (by omega) (W.ret trivial)))
  obtain ⟨y, hy⟩ : ∃ y, y = wrap64 (48 + a.tmod 10) % 256 := ⟨_, rfl⟩
  rw [← hy]
  have hd : Int.tdiv a 10 = a / 10 := Int.tdiv_eq_ediv_of_nonneg h0
  rw [w64 (x := Int.tdiv a 10) (by omega) (by omega), hd]
  have hs := strOfNums_one y
  refine W.pos (by omega) (ih (_, _) ⟨by dsimp only; omega, ?_⟩ (by dsimp only; omega))
  dsimp only
  rw [ByteArray.size_append, hs]; omega
open Classical in
/-- The mark's text. -/
noncomputable def mtx (x : Int) : ByteArray := if h : ∃ r, W (fun k => laws_markText.f k x) (· = r) then Classical.choose h else ByteArray.empty
theorem markTextW (x : Int) (h : x ≤ 1000000000000000) : W (fun k => laws_markText.f k x) (· = mtx x) := by
  have ex : ∃ r, W (fun k => laws_markText.f k x) (· = r) := by
    obtain ⟨r, _, hK⟩ := markTextEnds x h
    exact ⟨r, r, rfl, hK⟩
  unfold mtx
  rw [dif_pos ex]
  exact Classical.choose_spec ex

/-- The marks from k on. -/
noncomputable def marks (k : Int) (n : Nat) : List ByteArray := tab (fun i => mtx (k + i)) n
theorem markStrings (a : List ByteArray) (k : Int) (h0 : 0 ≤ k) (h1 : k ≤ 1000) (ha : a.length ≤ 140737488351232) : W (fun f => laws_markStringS.f f a k) (fun r => r = (k + a.length, marks k a.length)) := by
  unfold laws_markStringS.f
  have key := W.loop (l := fun (s : Int × List ByteArray) f => laws_markStringS.l0 f s.2 (k + s.1) s.1) (P := fun _ r => r = (k + a.length, marks k a.length)) (fun s => 0 ≤ s.1 ∧ s.1 ≤ a.length ∧ s.2.length = a.length ∧ ∀ j, 0 ≤ j → j < s.1 → rdOf ByteArray.empty s.2 j = mtx (k + j)) (fun s => (a.length - s.1).toNat) (by
    rintro ⟨i, x⟩ ⟨h2, h3, h4, h5⟩ ih
    dsimp only at h2 h3 h4 h5 ⊢
    refine W.step (fun f => laws_markStringS.l0.eq_2 ..) ?_
    by_cases hlt : i < a.length
    · rw [w64 (x := i + 1) (by omega) (by omega), w64 (x := k + i + 1) (by omega) (by omega)]
      have next := ih (i + 1, x.set i.toNat (mtx (k + i))) ⟨by dsimp only; omega, by dsimp only; omega, by dsimp only; rw [List.length_set]; exact h4, fun j h6 h7 => by
        dsimp only at h7 ⊢
        by_cases e : j = i
        · subst e; exact rdOf_set_self _ _ _ h6 (by omega)
        · rw [rdOf_set_ne _ _ _ h6 h2 e]; exact h5 j h6 (by omega)⟩ (by dsimp only; omega)
      dsimp only at next
      rw [show k + (i + 1) = k + i + 1 from by omega] at next
      exact W.pos (by omega) (W.bind_eq (markTextW (k + i) (by omega)) (W.pos h2 next))
    · refine W.neg (by omega) (W.ret ?_)
      have e : i = a.length := by omega
      subst e
      exact Prod.ext rfl (rdOf_ext ByteArray.empty (by unfold marks; rw [tab_len]; exact h4) (fun j h6 h7 => by
        dsimp only at h7
        show rdOf ByteArray.empty x j = _
        unfold marks
        rw [h5 j h6 (by omega), rdOf_tab _ _ _ h6 (by omega), show ((j.toNat : Nat) : Int) = j from by omega]))) (0, a) ⟨by simp, by simp, rfl, fun j h6 h7 => by dsimp only at h7; omega⟩
  simpa using key
theorem heldStrings (k : Int) (n : Nat) (h0 : 0 ≤ k) (h1 : k ≤ 1000) (hn : n ≤ 140737488351232) : W (fun f => laws_heldStringS.f f (marks k n) k) (fun r => r = k + n) := by
  unfold laws_heldStringS.f
  have hl : (marks k n).length = n := tab_len _ n
  have key := W.loop (l := fun (i : Int) f => laws_heldStringS.l0 f (marks k n) (k + i) i) (P := fun _ r => r = k + n) (fun i => 0 ≤ i ∧ i ≤ n) (fun i => (n - i).toNat) (by
    rintro i ⟨h2, h3⟩ ih
    refine W.step (fun f => laws_heldStringS.l0.eq_2 ..) ?_
    by_cases hlt : i < n
    · rw [w64 (x := i + 1) (by omega) (by omega), w64 (x := k + i + 1) (by omega) (by omega)]
      have next := ih (i + 1) ⟨by omega, by omega⟩ (by omega)
      rw [show k + (i + 1) = k + i + 1 from by omega] at next
      refine W.pos (by omega) (W.pos h2 (W.bind_eq (markTextW (k + i) (by omega)) (W.pos ?_ next)))
      rw [show rdOf ByteArray.empty (marks k n) i = mtx (k + i) from by unfold marks; rw [rdOf_tab _ _ _ h2 hlt, show ((i.toNat : Nat) : Int) = i from by omega]]
    · exact W.neg (by omega) (W.ret (by omega))) 0 ⟨by omega, by omega⟩
  simpa using key
end Go.Proofs.YtheglgphknahdaaDoor.Ev
