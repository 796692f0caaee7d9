/- For every text, the program's ColourText returns what the reference's ColourText returns, in memory of its own. Conditions: none. -/
import Derived.Test.YtheglgphknahdaaDoorX17
import Derived.Test.YtheglgphknahdaaDoorEvCs
import Derived.Test.YtheglgphknahdaaDoorEvM
import Derived.Test.YtheglgphknahdaaDoorEvMS
namespace Go.Proofs.YtheglgphknahdaaDoor.Pure
open Go.RowKit Go.Proofs.YtheglgphknahdaaDoor.X Go.Proofs.YtheglgphknahdaaDoor.Wp Go.Proofs.YtheglgphknahdaaDoor.Ev Go.Proofs.YtheglgphknahdaaDoor.ThL Go.Proofs.YtheglgphknahdaaDoor.ThT

theorem FnExactColourText : laws_FnExactColourText.Pure := by
  intro s hs
  refine W.rounds (r := true) ?_
  unfold laws_FnExactColourText.f
  refine W.ite (fun _ => W.ret rfl) (fun _ => W.bind_eq (specCText s hs) (W.bind_eq (implCText s hs) ?_))
  have hi := implCText s hs
  obtain ⟨M, hM⟩ : ∃ M : List ByteArray, M = if VT s then tab (ccol s) (nl s s.size + 1) else [] := ⟨_, rfl⟩
  have hl : M.length ≤ 140737488351232 := by
    have := nl_le s s.size
    rw [hM]
    split
    · rename_i hv
      have := hv.1
      rw [tab_len]; omega
    · simp
  rw [← hM] at hi ⊢
  refine W.bind_eq (eqStrings_true rfl hl) (W.pos rfl (W.bind_eq (markStrings M 1 (by omega) (by omega) hl) (W.bind_eq (heldStrings 1 M.length (by omega) (by omega) hl) (W.neg (by omega) (W.pos rfl (W.bind_eq hi (W.bind_eq (eqStrings_true rfl hl) (W.pos rfl (W.bind_eq (heldStrings 1 M.length (by omega) (by omega) hl) (W.neg (by omega) (W.pos rfl (W.ret rfl))))))))))))
end Go.Proofs.YtheglgphknahdaaDoor.Pure
