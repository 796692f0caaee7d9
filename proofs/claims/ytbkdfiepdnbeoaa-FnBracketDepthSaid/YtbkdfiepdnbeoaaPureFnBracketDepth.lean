/- For every code, the law on BracketDepth answers true: depth 0 at both ends of the text, and from a place to the next one it changes by at most 1. Conditions: none. -/
import Derived.Test.YtbkdfiepdnbeoaaX23
import Derived.Test.YtbkdfiepdnbeoaaEvB
import Derived.Test.YtbkdfiepdnbeoaaEvL
import Derived.Test.YtbkdfiepdnbeoaaEvDP
namespace Go.Proofs.Ytbkdfiepdnbeoaa.Pure
open Go.RowKit Go.Proofs.Ytbkdfiepdnbeoaa.X Go.Proofs.Ytbkdfiepdnbeoaa.Wp Go.Proofs.Ytbkdfiepdnbeoaa.Ev Go.Proofs.Ytbkdfiepdnbeoaa.ThB Go.Proofs.YtbkdfiepdnbeoaaW.PrintWords

theorem depth_bound {s : ByteArray} {p : Int} : 0 ≤ depth s p ∧ depth s p ≤ p.toNat := by
  have := aro_len_le (mates s) p p.toNat
  unfold depth; omega

theorem FnBracketDepth : laws_FnBracketDepth.Pure := by
  intro l _ _ hw
  refine W.rounds (r := true) ?_
  unfold laws_FnBracketDepth.f
  refine W.ite (fun _ => W.ret rfl) (fun _ => W.bind (drawDepth hw) (fun r hr => ?_))
  obtain ⟨s, p⟩ := r
  obtain ⟨hs, hp0, hp1⟩ := hr
  dsimp only at hs hp0 hp1 ⊢
  have hs2 : s.size ≤ 140737488351232 := by omega
  refine W.bind_eq (implDepth s p hs2) (W.bind_eq (specDepth s p hs2) (W.pos rfl ?_))
  have hplace : W (fun k => laws_placeOk.f k s p) (fun b => b = true ↔ VT s ∧ 0 ≤ p ∧ p ≤ s.size) := by
    unfold laws_placeOk.f
    refine W.bind (specTV s hs2) (fun b hb => W.ite (fun h => W.ite (fun h2 => W.ret ?_) (fun h2 => W.ret ?_)) (fun h => W.ret ?_))
    · simp only [decide_eq_true_eq]
      exact ⟨fun h3 => ⟨hb.1 h, h2, h3⟩, fun h3 => h3.2.2⟩
    · exact ⟨fun h3 => by simp at h3, fun h3 => absurd h3.2.1 h2⟩
    · exact ⟨fun h3 => by simp at h3, fun h3 => absurd (hb.2 h3.1) h⟩
  refine W.bind hplace (fun b hb => W.ite (fun h => ?_) (fun h => ?_))
  · have hv := hb.1 h
    rw [if_pos hv]
    have ok : ∀ q : Int, 0 ≤ q → q ≤ s.size → W (fun k => impl_BracketDepth.f k s q) (· = depth s q) := fun q h0 h1 =>
      (implDepth s q hs2).mono fun r hr => by rw [hr, if_pos ⟨hv.1, h0, h1⟩]
    obtain ⟨q, hq, hq0, hq1, hstep⟩ : ∃ q, mn (s.size : Int) (p + 1) = q ∧ 0 ≤ q ∧ q ≤ s.size ∧ depth s q - depth s p ≤ 1 ∧ depth s p - depth s q ≤ 1 := by
      refine ⟨_, rfl, ?_⟩
      unfold mn
      split
      · rename_i hlt
        have hlt2 : p < s.size := by omega
        exact ⟨by omega, by omega, depth_step s p hv.2.1 hlt2⟩
      · rename_i hge
        by_cases e : p = s.size
        · rw [e]; exact ⟨by omega, by omega, by omega, by omega⟩
        · rw [show (s.size : Int) = p + 1 from by omega]
          exact ⟨by omega, by omega, depth_step s p hv.2.1 (by omega)⟩
    rw [w64 (x := p + 1) (by omega) (by omega), hq]
    have d0 := depth_bound (s := s) (p := p)
    have d1 := depth_bound (s := s) (p := q)
    refine W.bind_eq (ok q hq0 hq1) (W.pos d0.1 (W.bind_eq (ok 0 (by omega) (by omega)) (W.pos (depth_zero s) (W.bind_eq (ok s.size (by omega) (by omega)) (W.pos (depth_end s) ?_)))))
    rw [w64 (x := depth s q - depth s p) (by omega) (by omega), w64 (x := depth s p - depth s q) (by omega) (by omega)]
    refine W.pos hstep.1 (W.ret ?_)
    simpa using hstep.2
  · rw [if_neg (fun hv => h (hb.2 hv))]
    exact W.pos rfl alive_then
end Go.Proofs.Ytbkdfiepdnbeoaa.Pure
