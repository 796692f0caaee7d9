/- What the printed functions answer, part Cs: the states before a text's lines, the colours of its lines. -/
import Derived.Test.YtheglgphknahdaaDoorX12
import Derived.Test.YtheglgphknahdaaDoorX5
import Derived.Test.YtheglgphknahdaaDoorX6
import Derived.Test.YtheglgphknahdaaDoorEvC
import Derived.Test.YtheglgphknahdaaDoorEvSp
import Derived.Test.YtheglgphknahdaaDoorEvLn
namespace Go.Proofs.YtheglgphknahdaaDoor.Ev
open Go.RowKit Go.Proofs.YtheglgphknahdaaDoor.X Go.Proofs.YtheglgphknahdaaDoor.Wp Go.Proofs.YtheglgphknahdaaDoorW.PrintWords Go.Proofs.YtheglgphknahdaaDoor.ThL Go.Proofs.YtheglgphknahdaaDoor.ThC Go.Proofs.YtheglgphknahdaaDoor.ThT
set_option linter.unusedVariables false
set_option linter.unusedSimpArgs false

/-- The state before line k. -/
def cst (s : ByteArray) : Nat → Int
  | 0 => 0
  | k + 1 => (crun (cst s k) (lineAt s k) (lineAt s k).size).1
theorem cst_range (s : ByteArray) : ∀ k, 0 ≤ cst s k ∧ cst s k ≤ 9
  | 0 => ⟨Int.le_refl 0, show (0 : Int) ≤ 9 by decide⟩
  | k + 1 => by
    have := cst_range s k
    exact crun_range _ this.1 this.2 _
/-- The colours of line k. -/
def ccol (s : ByteArray) (k : Nat) : ByteArray := colT (cst s k) (lineAt s k) (lineAt s k).size
theorem lineAt_le (s : ByteArray) (k : Nat) : (lineAt s k).size ≤ s.size := by
  unfold lineAt; rw [ByteArray.size_extract]; omega
theorem colourAt (s : ByteArray) (hs : s.size ≤ 1000000) (k : Nat) : impl_colour.f (cst s k) (lineAt s k) = some (cst s (k + 1), ccol s k) := by
  have := cst_range s k
  have := lineAt_le s k
  unfold impl_colour.f; rw [if_pos ⟨by omega, by omega, by omega⟩]; rfl
theorem lines_tab (s : ByteArray) : lines s = tab (lineAt s) (nl s s.size + 1) := by
  unfold lines
  induction (nl s s.size + 1) with
  | zero => rfl
  | succ n ih => rw [tab_succ, lns_succ, ih]

theorem implStates (s : ByteArray) (hs : s.size ≤ 140737488351232) : W (fun k => impl_ColourStates.f k s) (fun r => r = if VT s then tab (cst s) (nl s s.size + 2) else []) := by
  unfold impl_ColourStates.f
  refine W.bind (implTV s hs) (fun b hb => W.ite (fun h => ?_) (fun h => W.ret (by rw [if_neg (fun hv => h (hb.2 hv))])))
  have hv := hb.1 h
  have hsz := hv.1
  rw [if_pos hv]
  have fin := nl_le s s.size
  refine W.bind_eq (linesOfW s (by omega)) ?_
  have hl := lines_len s
  rw [hl]
  have key := W.loop (l := fun (i : Nat) k => impl_ColourStates.l0 k (tab (cst s) (i + 1)) (lines s) ((nl s s.size + 1 : Nat) : Int) i) (P := fun _ r => r = tab (cst s) (nl s s.size + 2)) (fun i : Nat => i ≤ nl s s.size + 1) (fun i => nl s s.size + 1 - i) (by
    intro i hi ih
    refine W.step (fun k => impl_ColourStates.l0.eq_2 ..) ?_
    have ht := tab_len (cst s) (i + 1)
    by_cases hlt : i < nl s s.size + 1
    · have next := ih (i + 1) (by omega) (by omega)
      rw [tab_succ, show ((i + 1 : Nat) : Int) = (i : Int) + 1 from by omega] at next
      rw [w64 (x := ((tab (cst s) (i + 1)).length : Int) - 1) (by omega) (by omega), w64 (x := (i : Int) + 1) (by omega) (by omega)]
      refine W.pos (by omega) (W.pos (by omega) (W.pos (by omega) (W.pos (by omega) (W.pos (by omega) ?_))))
      rw [show rd (tab (cst s) (i + 1)) (((tab (cst s) (i + 1)).length : Int) - 1) = cst s i from by rw [rd_tab _ _ (by omega) (by omega), show (((tab (cst s) (i + 1)).length : Int) - 1).toNat = i from by omega], lines_get s (by omega) (by omega), Int.toNat_natCast]
      exact W.call (colourAt s (by omega) i) (W.pos (by omega) next)
    · have e : i = nl s s.size + 1 := by omega
      subst e
      exact W.neg (by omega) (W.ret rfl)) 0 (by omega)
  exact key
theorem specStates (s : ByteArray) (hs : s.size ≤ 140737488351232) : W (fun k => spec_ColourStates.f k s) (fun r => r = if VT s then tab (cst s) (nl s s.size + 2) else []) := by
  unfold spec_ColourStates.f
  refine W.bind_eq (specLinesOf s hs) ?_
  by_cases hv : VT s
  · rw [if_pos hv, if_pos hv]
    have hsz := hv.1
    have fin := nl_le s s.size
    have hl := lines_len s
    have key := W.loop (l := fun (i : Nat) k => spec_ColourStates.l0 k (lines s) (tab (cst s) i) (cst s i) i) (P := fun _ r => r = tab (cst s) (nl s s.size + 2)) (fun i : Nat => i ≤ nl s s.size + 1) (fun i => nl s s.size + 1 - i) (by
      intro i hi ih
      refine W.step (fun k => spec_ColourStates.l0.eq_2 ..) ?_
      have ht := tab_len (cst s) i
      by_cases hlt : i < nl s s.size + 1
      · have next := ih (i + 1) (by omega) (by omega)
        have rg := cst_range s i
        have lz := lineAt_le s i
        rw [tab_succ, show ((i + 1 : Nat) : Int) = (i : Int) + 1 from by omega] at next
        rw [w64 (x := (i : Int) + 1) (by omega) (by omega), lines_get s (by omega) (by omega), Int.toNat_natCast]
        exact W.pos (by omega) (W.pos (by omega) (W.pos (by omega) (W.bind_eq (specLine _ _ rg.1 rg.2 (by omega)) next)))
      · have e : i = nl s s.size + 1 := by omega
        subst e
        refine W.neg (by omega) (W.pos (by omega) (W.pos (by omega) (W.ret rfl)))) 0 (by omega)
    exact key
  · rw [if_neg hv, if_neg hv]
    exact W.step (fun k => spec_ColourStates.l0.eq_2 ..) (W.neg (by simp) (W.neg (by simp) (W.ret rfl)))
theorem implCText (s : ByteArray) (hs : s.size ≤ 140737488351232) : W (fun k => impl_ColourText.f k s) (fun r => r = if VT s then tab (ccol s) (nl s s.size + 1) else []) := by
  unfold impl_ColourText.f
  refine W.bind (implTV s hs) (fun b hb => W.ite (fun h => ?_) (fun h => W.ret (by rw [if_neg (fun hv => h (hb.2 hv))])))
  have hv := hb.1 h
  have hsz := hv.1
  rw [if_pos hv]
  have fin := nl_le s s.size
  refine W.bind_eq (linesOfW s (by omega)) ?_
  have hl := lines_len s
  rw [hl]
  have key := W.loop (l := fun (i : Nat) k => impl_ColourText.l0 k (tab (ccol s) i) (cst s i) (lines s) ((nl s s.size + 1 : Nat) : Int) i) (P := fun _ r => r = tab (ccol s) (nl s s.size + 1)) (fun i : Nat => i ≤ nl s s.size + 1) (fun i => nl s s.size + 1 - i) (by
    intro i hi ih
    refine W.step (fun k => impl_ColourText.l0.eq_2 ..) ?_
    have ht := tab_len (ccol s) i
    by_cases hlt : i < nl s s.size + 1
    · have next := ih (i + 1) (by omega) (by omega)
      rw [tab_succ, show ((i + 1 : Nat) : Int) = (i : Int) + 1 from by omega] at next
      rw [w64 (x := (i : Int) + 1) (by omega) (by omega), lines_get s (by omega) (by omega), Int.toNat_natCast]
      exact W.pos (by omega) (W.pos (by omega) (W.pos (by omega) (W.call (colourAt s (by omega) i) (W.pos (by omega) next))))
    · have e : i = nl s s.size + 1 := by omega
      subst e
      exact W.neg (by omega) (W.ret rfl)) 0 (by omega)
  exact key
theorem specCText (s : ByteArray) (hs : s.size ≤ 140737488351232) : W (fun k => spec_ColourText.f k s) (fun r => r = if VT s then tab (ccol s) (nl s s.size + 1) else []) := by
  unfold spec_ColourText.f
  refine W.bind_eq (specLinesOf s hs) ?_
  by_cases hv : VT s
  · rw [if_pos hv, if_pos hv]
    have hsz := hv.1
    have fin := nl_le s s.size
    have hl := lines_len s
    have key := W.loop (l := fun (i : Nat) k => spec_ColourText.l0 k (lines s) (tab (ccol s) i) (cst s i) i) (P := fun _ r => r = tab (ccol s) (nl s s.size + 1)) (fun i : Nat => i ≤ nl s s.size + 1) (fun i => nl s s.size + 1 - i) (by
      intro i hi ih
      refine W.step (fun k => spec_ColourText.l0.eq_2 ..) ?_
      have ht := tab_len (ccol s) i
      by_cases hlt : i < nl s s.size + 1
      · have next := ih (i + 1) (by omega) (by omega)
        have rg := cst_range s i
        have lz := lineAt_le s i
        rw [tab_succ, show ((i + 1 : Nat) : Int) = (i : Int) + 1 from by omega] at next
        rw [w64 (x := (i : Int) + 1) (by omega) (by omega), lines_get s (by omega) (by omega), Int.toNat_natCast]
        exact W.pos (by omega) (W.pos (by omega) (W.bind_eq (specLine _ _ rg.1 rg.2 (by omega)) (W.pos (by omega) next)))
      · have e : i = nl s s.size + 1 := by omega
        subst e
        exact W.neg (by omega) (W.ret rfl)) 0 (by omega)
    exact key
  · rw [if_neg hv, if_neg hv]
    exact W.step (fun k => spec_ColourText.l0.eq_2 ..) (W.neg (by simp) (W.ret rfl))
end Go.Proofs.YtheglgphknahdaaDoor.Ev
