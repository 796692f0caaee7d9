/- What the printed functions answer, part L: 'alive'. -/
import Derived.Test.YtbkdfiepdnbeoaaX6
import Derived.Test.YtbkdfiepdnbeoaaEvA
namespace Go.Proofs.Ytbkdfiepdnbeoaa.Ev
open Go.RowKit Go.Proofs.Ytbkdfiepdnbeoaa.X Go.Proofs.Ytbkdfiepdnbeoaa.Wp Go.Proofs.YtbkdfiepdnbeoaaW.PrintWords
set_option linter.unusedVariables false
set_option linter.unusedSimpArgs false

theorem aliveW : W (fun k => laws_alive.f k) (· = true) := by
  have hv : VT (⟨#[97, 10, 98]⟩ : ByteArray) := by
    refine ⟨by decide, fun j h0 h1 => ?_⟩
    have h3 : ((⟨#[97, 10, 98]⟩ : ByteArray).size : Int) = 3 := rfl
    have : j = 0 ∨ j = 1 ∨ j = 2 := by omega
    rcases this with rfl | rfl | rfl
    · right; decide
    · left; rfl
    · right; decide
  unfold laws_alive.f impl_LineMany.f
  refine W.bind_eq (a := 2) (W.bind_eq (tv_pos (implTV _ (by decide)) hv) (W.pos rfl (W.call (r := 1) rfl (W.ret ?_)))) (W.ret rfl)
  exact w64 (by omega) (by omega)
theorem alive_then : W (fun k => (laws_alive.f k).bind fun t => some t) (· = true) := W.bind_eq aliveW (W.ret rfl)
end Go.Proofs.Ytbkdfiepdnbeoaa.Ev
