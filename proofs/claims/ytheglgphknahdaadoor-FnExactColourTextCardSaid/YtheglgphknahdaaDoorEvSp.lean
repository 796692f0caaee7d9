/- What the printed functions answer, part Sp: a text split at its line ends is its lines. -/
import Derived.Test.YtheglgphknahdaaDoorX14
import Derived.Test.YtheglgphknahdaaDoorX4
import Derived.Test.YtheglgphknahdaaDoorEvA
import Derived.Test.YtheglgphknahdaaDoorThL
import Derived.Test.YtheglgphknahdaaDoorThT
import Derived.Lib.IndexLaws
namespace Go.Proofs.YtheglgphknahdaaDoor.Ev
open Go.RowKit Go.Proofs.YtheglgphknahdaaDoor.X Go.Proofs.YtheglgphknahdaaDoor.Wp Go.Proofs.YtheglgphknahdaaDoorW.PrintWords Go.Proofs.YtheglgphknahdaaDoor.ThL Go.Proofs.YtheglgphknahdaaDoor.ThT
set_option linter.unusedVariables false
set_option linter.unusedSimpArgs false

theorem data_get (s : ByteArray) (n : Nat) (c : UInt8) : s.data.toList[n]? = some c ↔ n < s.size ∧ bt s n = c.toNat := by
  have hlen : s.data.toList.length = s.size := by rw [Array.length_toList]; rfl
  constructor
  · intro h
    have hn : n < s.data.toList.length := by
      rcases Nat.lt_or_ge n s.data.toList.length with h1 | h1
      · exact h1
      · rw [List.getElem?_eq_none h1] at h; cases h
    rw [List.getElem?_eq_getElem hn] at h
    injection h with h
    refine ⟨by omega, ?_⟩
    obtain ⟨p, e⟩ := bt_eq s (i := (n : Int)) (by omega) (by omega)
    rw [e]
    simp only [Int.toNat_natCast]
    have : s[n]'(by omega) = s.data.toList[n]'hn := rfl
    rw [this, h]
  · rintro ⟨h1, h2⟩
    obtain ⟨p, e⟩ := bt_eq s (i := (n : Int)) (by omega) (by omega)
    rw [e] at h2
    rw [List.getElem?_eq_getElem (by omega)]
    congr 1
    apply UInt8.toNat_inj.1
    simp only [Int.toNat_natCast] at h2
    exact_mod_cast h2
theorem ib_cases (s : ByteArray) (c : UInt8) : (Lib.indexByte s.data.toList c = -1 ∧ ∀ j : Int, 0 ≤ j → j < s.size → bt s j ≠ c.toNat) ∨ ∃ o : Nat, Lib.indexByte s.data.toList c = o ∧ o < s.size ∧ bt s o = c.toNat ∧ ∀ j : Int, 0 ≤ j → j < o → bt s j ≠ c.toNat := by
  have hge := Lib.indexByte_ge s.data.toList c
  by_cases h : Lib.indexByte s.data.toList c = -1
  · refine .inl ⟨h, fun j h0 h1 h2 => ?_⟩
    exact Lib.indexByte_none h j.toNat ((data_get s _ _).2 ⟨by omega, by rw [show ((j.toNat : Nat) : Int) = j from by omega]; exact h2⟩)
  · obtain ⟨o, ho⟩ : ∃ o : Nat, Lib.indexByte s.data.toList c = o := ⟨(Lib.indexByte s.data.toList c).toNat, by omega⟩
    obtain ⟨h1, h2⟩ := Lib.indexByte_some ho
    obtain ⟨h3, h4⟩ := (data_get s _ _).1 h1
    refine .inr ⟨o, ho, h3, h4, fun j h0 h5 h6 => ?_⟩
    exact h2 j.toNat (by omega) ((data_get s _ _).2 ⟨by omega, by rw [show ((j.toNat : Nat) : Int) = j from by omega]; exact h6⟩)
theorem count10 (s : ByteArray) : ∀ n, n ≤ s.size → (s.data.toList.take n).count 10 = nl s n
  | 0, _ => by rw [List.take_zero]; rfl
  | n + 1, h => by
    rw [List.take_add_one, List.count_append, count10 s n (by omega), nl_step]
    have hn : n < s.data.toList.length := by rw [Array.length_toList]; exact h
    rw [List.getElem?_eq_getElem hn]
    have hg : s.data.toList[n]? = some (s.data.toList[n]'hn) := List.getElem?_eq_getElem hn
    by_cases e : bt s n = 10
    · have := (data_get s n 10).2 ⟨by omega, e⟩
      rw [hg] at this
      injection this with this
      rw [this, if_pos e]; rfl
    · rw [if_neg e]
      have hne : s.data.toList[n]'hn ≠ 10 := fun h2 => by
        rw [h2] at hg
        exact e ((data_get s n 10).1 hg).2
      rw [Option.toList_some, List.count_singleton, if_neg (by simpa using hne)]
theorem countNl (s : ByteArray) : Lib.countByte s.data.toList 10 = nl s s.size := by
  rw [← count10 s s.size (Nat.le_refl _)]
  unfold Lib.countByte
  rw [List.take_of_length_le]
  rw [Array.length_toList]; exact Nat.le_refl _

/-- The text from line i's beginning on. -/
def rest (s : ByteArray) (i : Nat) : ByteArray := s.extract (st s i) s.size
theorem rest_size (s : ByteArray) {i : Nat} (h : i ≤ nl s s.size) : (rest s i).size = s.size - st s i := by
  unfold rest; rw [ByteArray.size_extract]; omega
theorem rest_bt (s : ByteArray) {i : Nat} (h : i ≤ nl s s.size) {j : Int} (h0 : 0 ≤ j) (h1 : j < (rest s i).size) : bt (rest s i) j = bt s (st s i + j) := by
  obtain ⟨a, _, _⟩ := st_spec s i h
  rw [rest_size s h] at h1
  have := bt_ext s (a := (st s i : Int)) (b := (s.size : Int)) (i := j) (by omega) h0 (by omega) (by omega)
  rw [Int.toNat_natCast, Int.toNat_natCast] at this
  exact this
theorem rest_last (s : ByteArray) : rest s (nl s s.size) = lineAt s (nl s s.size) := by unfold rest lineAt; rw [last_en]
theorem index10 (s : ByteArray) {i : Nat} (h : i < nl s s.size) : strings_Index.f (rest s i) (⟨#[10]⟩ : ByteArray) = some ((en s i - st s i : Nat) : Int) := by
  have h1 : strings_Index.f (rest s i) (⟨#[10]⟩ : ByteArray) = some (Lib.indexByte (rest s i).data.toList 10) := rfl
  rw [h1]
  congr 1
  obtain ⟨a, b, c, d, e⟩ := en_spec s (k := i) (by omega)
  have hlt : en s i < s.size := by
    have := (st_spec s (i + 1) (by omega)).1
    rw [st_succ] at this; omega
  have hz := rest_size s (i := i) (by omega)
  have hat : bt (rest s i) ((en s i - st s i : Nat) : Int) = 10 := by
    rw [rest_bt s (by omega) (by omega) (by omega), show (st s i : Int) + ((en s i - st s i : Nat) : Int) = (en s i : Nat) from by omega]
    exact d hlt
  rcases ib_cases (rest s i) 10 with ⟨_, h2⟩ | ⟨o, h2, h3, h4, h5⟩
  · exact absurd hat (h2 _ (by omega) (by omega))
  · rw [h2]
    have e1 : ¬ o < en s i - st s i := fun h6 => by
      rw [rest_bt s (by omega) (by omega) (by omega)] at h4
      exact c _ (by omega) (by omega) h4
    have e2 : ¬ en s i - st s i < o := fun h6 => h5 _ (by omega) (by omega) hat
    omega

theorem genSplit10 (s : ByteArray) (hs : s.size ≤ 1000000) : W (fun k => strings_genSplit.f k s (⟨#[10]⟩ : ByteArray) 0 (-1)) (fun r => r = lines s) := by
  unfold strings_genSplit.f
  have fin := nl_le s s.size
  refine W.neg (by omega) (W.neg (by rw [toList_data]; simp) (W.pos (by omega) (W.call (show strings_Count.f s (⟨#[10]⟩ : ByteArray) = some (nl s s.size : Int) from by rw [show strings_Count.f s (⟨#[10]⟩ : ByteArray) = some ((Lib.countByte s.data.toList 10 : Nat) : Int) from rfl, countNl]) ?_)))
  rw [w64 (x := (nl s s.size : Int) + 1) (by omega) (by omega)]
  refine W.step (fun k => strings_genSplit.j0.eq_2 ..) ?_
  rw [w64 (x := (s.size : Int) + 1) (by omega) (by omega), show mn ((nl s s.size : Int) + 1) ((s.size : Int) + 1) = ((nl s s.size + 1 : Nat) : Int) from by unfold mn; split <;> omega, Int.toNat_natCast, w64 (x := ((nl s s.size + 1 : Nat) : Int) - 1) (by omega) (by omega), show ((nl s s.size + 1 : Nat) : Int) - 1 = (nl s s.size : Nat) from by omega]
  refine W.pos (by omega) (W.pos (by omega) ?_)
  obtain ⟨m, hm⟩ : ∃ m, m = nl s s.size := ⟨_, rfl⟩
  rw [← hm]
  have hd : (⟨#[]⟩ : ByteArray) = ByteArray.empty := rfl
  have key := W.loop (l := fun (i : Nat) k => strings_genSplit.l0 k (rest s i) (⟨#[10]⟩ : ByteArray) 0 m (tab (lineAt s) i ++ List.replicate (m + 1 - i) (⟨#[]⟩ : ByteArray)) i) (P := fun _ r => r = lines s) (fun i : Nat => i ≤ m) (fun i => m - i) (by
    intro i hi ih
    refine W.step (fun k => strings_genSplit.l0.eq_2 ..) ?_
    have hlen : (tab (lineAt s) i ++ List.replicate (m + 1 - i) (⟨#[]⟩ : ByteArray)).length = m + 1 := by rw [List.length_append, tab_len, List.length_replicate]; omega
    by_cases hlt : i < m
    · have next := ih (i + 1) (by omega) (by omega)
      obtain ⟨a, b, c, d, e⟩ := en_spec s (k := i) (by omega)
      have hes : en s i < s.size := by
        have := (st_spec s (i + 1) (by omega)).1
        rw [st_succ] at this; omega
      have hz := rest_size s (i := i) (by omega)
      have e1 : (rest s i).extract 0 (en s i - st s i) = lineAt s i := by
        unfold rest lineAt
        rw [ByteArray.extract_extract]
        congr 1 <;> omega
      have e2 : (rest s i).extract (en s i - st s i + 1) (rest s i).size = rest s (i + 1) := by
        rw [hz]
        unfold rest
        rw [ByteArray.extract_extract, st_succ]
        congr 1 <;> omega
      rw [show ((i + 1 : Nat) : Int) = (i : Int) + 1 from by omega] at next
      refine W.pos (by omega) (W.call (index10 s (by omega)) (W.neg (by omega) ?_))
      have hone : ((⟨#[10]⟩ : ByteArray).size : Int) = 1 := rfl
      rw [hone, w64 (x := ((en s i - st s i : Nat) : Int) + 0) (by omega) (by omega), w64 (x := ((en s i - st s i : Nat) : Int) + 1) (by omega) (by omega), w64 (x := (i : Int) + 1) (by omega) (by omega), Int.add_zero, Int.toNat_natCast, Int.toNat_natCast, show (((en s i - st s i : Nat) : Int) + 1).toNat = en s i - st s i + 1 from by omega, e1, e2, tab_set _ _ (m + 1) i (by omega)]
      exact W.pos (by omega) (W.pos (by omega) (W.pos (by omega) (W.pos (by omega) (W.pos (by omega) (W.pos (by omega) next)))))
    · have e : i = m := by omega
      subst e
      refine W.neg (by omega) (W.pos (by omega) (W.pos (by omega) ?_))
      rw [w64 (x := (i : Int) + 1) (by omega) (by omega)]
      refine W.pos (by omega) (W.pos (by omega) (W.ret ?_))
      rw [Int.toNat_natCast, show ((i : Int) + 1).toNat = i + 1 from by omega]
      have hl : rest s i = lineAt s i := by rw [hm]; exact rest_last s
      rw [hl, tab_set _ _ (i + 1) i (by omega), Nat.sub_self, List.replicate_zero, List.append_nil, List.take_of_length_le (by rw [tab_len]; exact Nat.le_refl _)]
      unfold lines
      rw [← hm]
      clear hlt hlen hl ih hi
      induction (i + 1) with
      | zero => rfl
      | succ n ih => rw [tab_succ, lns_succ, ih]) 0 (by omega)
  have e0 : rest s 0 = s := by
    unfold rest
    rw [show st s 0 = 0 from rfl]
    exact ByteArray.extract_zero_size
  rw [e0] at key
  exact key
theorem linesOfW (s : ByteArray) (hs : s.size ≤ 1000000) : W (fun k => impl_linesOf.f k s) (fun r => r = lines s) := by
  unfold impl_linesOf.f strings_Split.f
  exact W.bind_eq (W.bind_eq (genSplit10 s hs) (W.ret rfl)) (W.ret rfl)
theorem implLinesOf (s : ByteArray) (hs : s.size ≤ 140737488351232) : W (fun k => impl_LinesOf.f k s) (fun r => r = if VT s then lines s else []) := by
  unfold impl_LinesOf.f
  refine W.bind (implTV s hs) (fun b hb => W.ite (fun h => ?_) (fun h => W.ret (by rw [if_neg (fun hv => h (hb.2 hv))])))
  have hv := hb.1 h
  rw [if_pos hv]
  exact W.bind_eq (linesOfW s (by have := hv.1; omega)) (W.ret rfl)
end Go.Proofs.YtheglgphknahdaaDoor.Ev
