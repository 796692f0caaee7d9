/- For every text, the program's ColourStates returns what the reference's ColourStates returns, in memory of its own. Conditions: none. -/
import Derived.Test.YtheglgphknahdaaDoorX16
import Derived.Test.YtheglgphknahdaaDoorEvCs
import Derived.Test.YtheglgphknahdaaDoorEvM
import Derived.Test.YtheglgphknahdaaDoorEvMS
namespace Go.Proofs.YtheglgphknahdaaDoor.Pure
open Go.RowKit Go.Proofs.YtheglgphknahdaaDoor.X Go.Proofs.YtheglgphknahdaaDoor.Wp Go.Proofs.YtheglgphknahdaaDoor.Ev Go.Proofs.YtheglgphknahdaaDoor.ThL Go.Proofs.YtheglgphknahdaaDoor.ThT

theorem FnExactColourStates : laws_FnExactColourStates.Pure := by
  intro s hs
  refine W.rounds (r := true) ?_
  unfold laws_FnExactColourStates.f
  refine W.ite (fun _ => W.ret rfl) (fun _ => W.bind_eq (specStates s hs) (W.bind_eq (implStates s hs) ?_))
  have hi := implStates s hs
  obtain ⟨M, hM⟩ : ∃ M : List Int, M = if VT s then tab (cst s) (nl s s.size + 2) else [] := ⟨_, rfl⟩
  have hl : M.length ≤ 140737488351232 := by
    have := nl_le s s.size
    rw [hM]
    split
    · rename_i hv
      have := hv.1
      rw [tab_len]; omega
    · simp
  rw [← hM] at hi ⊢
  refine W.bind_eq (eqInts_true rfl hl) (W.pos rfl (W.bind_eq (markInts M 1 (by omega) (by omega) hl) (W.bind_eq (heldInts 1 M.length (by omega) (by omega) hl) (W.neg (by omega) (W.pos rfl (W.bind_eq hi (W.bind_eq (eqInts_true rfl hl) (W.pos rfl (W.bind_eq (heldInts 1 M.length (by omega) (by omega) hl) (W.neg (by omega) (W.pos rfl (W.ret rfl))))))))))))
end Go.Proofs.YtheglgphknahdaaDoor.Pure
