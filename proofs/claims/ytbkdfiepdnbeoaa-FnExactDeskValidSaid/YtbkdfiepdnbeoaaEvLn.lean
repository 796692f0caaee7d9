/- What the printed functions answer, part Ln: the reference's lines. -/
import Derived.Test.YtbkdfiepdnbeoaaX27
import Derived.Test.YtbkdfiepdnbeoaaEvA
import Derived.Test.YtbkdfiepdnbeoaaThL
namespace Go.Proofs.Ytbkdfiepdnbeoaa.Ev
open Go.RowKit Go.Proofs.Ytbkdfiepdnbeoaa.X Go.Proofs.Ytbkdfiepdnbeoaa.Wp Go.Proofs.YtbkdfiepdnbeoaaW.PrintWords Go.Proofs.Ytbkdfiepdnbeoaa.ThL
set_option linter.unusedVariables false
set_option linter.unusedSimpArgs false

theorem specLineMany (s : ByteArray) (hs : s.size ≤ 140737488351232) : W (fun k => spec_LineMany.f k s) (fun r => r = if VT s then (nl s s.size : Int) + 1 else -1) := by
  unfold spec_LineMany.f
  refine W.bind (specTV s hs) (fun b hb => W.ite (fun h => ?_) (fun h => ?_))
  · rw [if_pos (hb.1 h)]
    have key := W.loop (l := fun (n : Nat) k => spec_LineMany.l0 k s ((nl s n : Int) + 1) n) (P := fun _ r => r = (nl s s.size : Int) + 1) (fun n : Nat => n ≤ s.size) (fun n => s.size - n) (by
      intro n hn ih
      refine W.step (fun k => spec_LineMany.l0.eq_2 ..) ?_
      have hle := nl_le s n
      by_cases hlt : n < s.size
      · have next := ih (n + 1) (by omega) (by omega)
        rw [nl_step, show ((n + 1 : Nat) : Int) = (n : Int) + 1 from by omega] at next
        rw [w64 (x := (n : Int) + 1) (by omega) (by omega), w64 (x := (nl s n : Int) + 1 + 1) (by omega) (by omega)]
        refine W.pos (by omega) (W.pos (by omega) (W.ite (fun hc => ?_) (fun hc => ?_)))
        · rw [if_pos hc] at next; exact next
        · rw [if_neg hc] at next; exact next
      · have e : n = s.size := by omega
        subst e
        exact W.neg (by omega) (W.ret rfl)) 0 (by omega)
    exact key
  · rw [if_neg (fun hv => h (hb.2 hv))]
    exact W.ret rfl

theorem specLineStart (s : ByteArray) (line : Int) (hs : s.size ≤ 140737488351232) : W (fun k => spec_LineStart.f k s line) (fun r => r = if VT s ∧ 0 ≤ line ∧ line ≤ nl s s.size then (st s line.toNat : Int) else -1) := by
  unfold spec_LineStart.f
  have out : ¬ (VT s ∧ 0 ≤ line ∧ line ≤ nl s s.size) → W (fun k => spec_LineStart.j0 k s line true) (fun r => r = if VT s ∧ 0 ≤ line ∧ line ≤ nl s s.size then (st s line.toNat : Int) else -1) := fun hv => by
    rw [if_neg hv]
    exact W.step (fun k => spec_LineStart.j0.eq_2 ..) (W.pos rfl (W.ret rfl))
  refine W.bind (specTV s hs) (fun b hb => W.ite (fun h => ?_) (fun h => out (fun hv => h (hb.2 hv.1))))
  have hv := hb.1 h
  have hsz := hv.1
  by_cases hl : line < 0
  · rw [decide_eq_true hl]; exact out (fun h => by omega)
  · rw [decide_eq_false hl]
    refine W.step (fun k => spec_LineStart.j0.eq_2 ..) (W.neg (by decide) ?_)
    have fin := nl_le s s.size
    have key := W.loop (l := fun (n : Nat) k => spec_LineStart.l0 k s line (nl s n) n) (P := fun _ r => r = if VT s ∧ 0 ≤ line ∧ line ≤ nl s s.size then (st s line.toNat : Int) else -1) (fun n : Nat => n ≤ s.size + 1 ∧ (line ≤ nl s s.size → n ≤ st s line.toNat)) (fun n => s.size + 1 - n) (by
      intro n ⟨hn, hst⟩ ih
      refine W.step (fun k => spec_LineStart.l0.eq_2 ..) ?_
      have hle := nl_le s n
      by_cases hlt : n ≤ s.size
      · have hmono := nl_mono s hlt
        -- going on
        have go : ¬ (nl s n = line ∧ (n = 0 ∨ bt s ((n : Int) - 1) = 10)) → W (fun k => spec_LineStart.j2 k s line (nl s n) n false) (fun r => r = if VT s ∧ 0 ≤ line ∧ line ≤ nl s s.size then (st s line.toNat : Int) else -1) := by
          intro hno
          have next := ih (n + 1) ⟨by omega, fun hle2 => by
            have h1 := hst hle2
            obtain ⟨a, b, c⟩ := st_spec s line.toNat (by omega)
            by_cases e : n = st s line.toNat
            · exfalso; apply hno
              rw [e]
              refine ⟨by omega, ?_⟩
              rcases c with c | c
              · left; rw [c]; rfl
              · right; exact c
            · omega⟩ (by omega)
          refine W.step (fun k => spec_LineStart.j2.eq_2 ..) (W.neg (by decide) ?_)
          rw [show ((n + 1 : Nat) : Int) = (n : Int) + 1 from by omega] at next
          rw [w64 (x := (n : Int) + 1) (by omega) (by omega)]
          by_cases hlt2 : n < s.size
          · rw [nl_step] at next
            rw [w64 (x := (nl s n : Int) + 1) (by omega) (by omega)]
            refine W.pos (by omega) (W.pos (by omega) (W.ite (fun hc => ?_) (fun hc => ?_)))
            · rw [if_pos hc] at next; exact next
            · rw [if_neg hc] at next; exact next
          · refine W.neg (by omega) ?_
            have e : n = s.size := by omega
            rw [show nl s (n + 1) = nl s n from by rw [nl_step, bt_out s (by omega), if_neg (by omega)]; rfl] at next
            exact next
        have found : (nl s n : Int) = line → (n = 0 ∨ bt s ((n : Int) - 1) = 10) → W (fun k => spec_LineStart.j2 k s line (nl s n) n true) (fun r => r = if VT s ∧ 0 ≤ line ∧ line ≤ nl s s.size then (st s line.toNat : Int) else -1) := by
          intro h1 h2
          refine W.step (fun k => spec_LineStart.j2.eq_2 ..) (W.pos rfl (W.ret ?_))
          rw [if_pos ⟨hv, by omega, by omega⟩]
          obtain ⟨a, b, c⟩ := st_spec s line.toNat (by omega)
          have c' : st s line.toNat = 0 ∨ bt s ((st s line.toNat : Int) - 1) = 10 := by
            rcases c with c | c
            · left; rw [c]; rfl
            · right; exact c
          rw [start_uniq s (p := n) (q := st s line.toNat) (by omega) h2 c']
        refine W.pos (by omega) (W.ite (fun h1 => W.ite (fun h2 => found h1 (.inl (by omega))) (fun h2 => ?_)) (fun h1 => go (fun h => h1 (by omega))))
        rw [w64 (x := (n : Int) - 1) (by omega) (by omega)]
        refine W.pos (by omega) (W.pos (by omega) ?_)
        by_cases h3 : bt s ((n : Int) - 1) = 10
        · rw [show (bt s ((n : Int) - 1) == 10) = true from by simpa using h3]
          exact found h1 (.inr h3)
        · rw [show (bt s ((n : Int) - 1) == 10) = false from by simpa using h3]
          exact go (fun h => by
            rcases h.2 with h | h
            · omega
            · exact h3 h)
      · refine W.neg (by omega) (W.ret ?_)
        rw [if_neg]
        intro h
        have := hst h.2.2
        have := (st_spec s line.toNat (by omega)).1
        omega) 0 ⟨by omega, fun _ => by omega⟩
    exact key

end Go.Proofs.Ytbkdfiepdnbeoaa.Ev
