/- For every text, the program's BracketMates returns what the reference's BracketMates returns, in memory of its own. Conditions: none. -/
import Derived.Test.YtbkdfiepdnbeoaaX19
import Derived.Test.YtbkdfiepdnbeoaaEvB
import Derived.Test.YtbkdfiepdnbeoaaEvM
namespace Go.Proofs.Ytbkdfiepdnbeoaa.Pure
open Go.RowKit Go.Proofs.Ytbkdfiepdnbeoaa.X Go.Proofs.Ytbkdfiepdnbeoaa.Wp Go.Proofs.Ytbkdfiepdnbeoaa.Ev Go.Proofs.Ytbkdfiepdnbeoaa.ThB

theorem FnExactBracketMates : laws_FnExactBracketMates.Pure := by
  intro s hs
  refine W.rounds (r := true) ?_
  unfold laws_FnExactBracketMates.f
  refine W.ite (fun _ => W.ret rfl) (fun _ => W.bind_eq (specBM s hs) (W.bind_eq (implMates s hs) ?_))
  obtain ⟨M, hM⟩ : ∃ M : List Int, M = if VT s then mates s else [] := ⟨_, rfl⟩
  have hl : M.length ≤ 140737488351232 := by
    rw [hM]
    split
    · rw [mates_len]; exact hs
    · simp
  have hi := implMates s hs
  rw [← hM] at hi ⊢
  refine W.bind_eq (eqInts_true rfl hl) (W.pos rfl (W.bind_eq (markInts M 1 (by omega) (by omega) hl) (W.bind_eq (heldInts 1 M.length (by omega) (by omega) hl) (W.neg (by omega) (W.pos rfl (W.bind_eq hi (W.bind_eq (eqInts_true rfl hl) (W.pos rfl (W.bind_eq (heldInts 1 M.length (by omega) (by omega) hl) (W.neg (by omega) (W.pos rfl (W.ret rfl))))))))))))
end Go.Proofs.Ytbkdfiepdnbeoaa.Pure
