-- written by a program of this session (wip/xprint.py) out of the translation
import Derived.Test.YtdpnfdoplahfgaaDoorX0
import Derived.Test.YtdpnfdoplahfgaaDoorX2
import Derived.Test.YtdpnfdoplahfgaaDoorX5
namespace Go.Proofs.YtdpnfdoplahfgaaDoor.X
open Go.RowKit Go.Proofs.YtdpnfdoplahfgaaDoorW.PrintWords Go.Proofs.YtdpnfdoplahfgaaDoorW.PrintLast Go.Proofs.YtdpnfdoplahfgaaDoorW.PrintMore
attribute [local go_sem] max2_int min2_int max_two min_two max_three min_three max_four min_four   -- for this text's walks alone
set_option linter.unusedVariables false
set_option linter.unusedSimpArgs false

/-! ### impl_FoldEnd: function 15 -/
def impl_FoldEnd.f (k : Nat) (a0 : ByteArray) (a1 : Int) : Option (Int) := (impl_isLine.f k a0 a1).bind fun t165 => (if t165 = true then ((impl_foldEnds.f k a0).bind fun t166 => (if 0 ≤ a1 then (if a1 < (t166.length : Int) then (some (rd t166 a1)) else (none)) else (none))) else (some (-1)))
theorem impl_FoldEnd.mono : ∀ a0 a1 k, LeO (impl_FoldEnd.f k a0 a1) (impl_FoldEnd.f (k + 1) a0 a1) := by
  intro a0 a1 k
  unfold impl_FoldEnd.f
  repeat' first
      | (with_reducible exact impl_foldEnds.mono _ _)
      | (with_reducible exact impl_isLine.mono _ _ _)
      | (with_reducible exact LeO.refl _)
      | (with_reducible exact LeO.none _)
      | (with_reducible refine LeO.ite ?_ ?_)
      | (with_reducible refine LeO.bind ?_ (fun _ => ?_))
      | exact impl_foldEnds.mono _ _
      | exact impl_isLine.mono _ _ _
      | exact LeO.none _
      | refine LeO.ite ?_ ?_
      | refine LeO.bind ?_ (fun _ => ?_)
set_option maxHeartbeats 8000000 in
set_option maxRecDepth 100000 in
theorem impl_FoldEnd.calls (k : Nat) (a0 : ByteArray) (a1 : Int) (r : Int) (w : World) (h : impl_FoldEnd.f k a0 a1 = some r) :
    Calls Tryd.prog 15 #[.string a0, .int .i64 a1] w fun e w' => e = .returned (.int .i64 r) ∧ Below w.heap.size w w' := by
  have HB := Aside0.mk (Below.refl w.heap.size w)
  have H : ((impl_isLine.f k a0 a1).bind fun t165 => (if t165 = true then ((impl_foldEnds.f k a0).bind fun t166 => (if 0 ≤ a1 then (if a1 < (t166.length : Int) then (some (rd t166 a1)) else (none)) else (none))) else (some (-1)))) = some r := h
  clear h
  replace H := Option.bind_eq_some_iff.mp H
  obtain ⟨t165, A30, H⟩ := H
  replace H : (if t165 = true then ((impl_foldEnds.f k a0).bind fun t166 => (if 0 ≤ a1 then (if a1 < (t166.length : Int) then (some (rd t166 a1)) else (none)) else (none))) else (some (-1))) = some r := H
  have A3 := Aside0.mk A30
  clear A30
  by_cases c4 : t165 = true
  · subst c4
    have H1 : ((impl_foldEnds.f k a0).bind fun t166 => (if 0 ≤ a1 then (if a1 < (t166.length : Int) then (some (rd t166 a1)) else (none)) else (none))) = some r := by rw [if_pos rfl] at H; exact H
    clear H
    have H := H1
    clear H1
    replace H := Option.bind_eq_some_iff.mp H
    obtain ⟨t166, A50, H⟩ := H
    replace H : (if 0 ≤ a1 then (if a1 < (t166.length : Int) then (some (rd t166 a1)) else (none)) else (none)) = some r := H
    have A5 := Aside0.mk A50
    clear A50
    by_cases c6 : 0 ≤ a1
    · rw [if_pos c6] at H
      have c6b0 : decide (0 ≤ a1) = true := decide_eq_true c6
      clear c6
      by_cases c7 : a1 < (t166.length : Int)
      · rw [if_pos c7] at H
        have c7b0 : decide (a1 < (t166.length : Int)) = true := decide_eq_true c7
        clear c7
        obtain rfl := Option.some.inj H
        go_enter Tryd.func15, Tryd.ntmps15
        go_wp2_with (first | ((with_reducible refine gate_callee (f := 36) rfl ?_); refine goesL_ (some 7) rfl rfl Tryd.func36 (by kernel_rfl) rfl #[.string a0, .int .i64 a1] rfl (by (try simp only [List.map_toArray, List.map_cons, List.map_nil]); first | done | rfl | (simp only [List.length_drop, List.length_take]; rfl)) ?_; (with_reducible refine (impl_isLine.calls k a0 a1 true _ A3.out).mono ?_); rintro e w' ⟨rfl, ⟨nd, rfl⟩⟩; refine ⟨_, rfl, ?_⟩) | ((with_reducible refine gate_callee (f := 40) rfl ?_); refine goesL_ (some 10) rfl rfl Tryd.func40 (by kernel_rfl) rfl #[.string a0] rfl (by (try simp only [List.map_toArray, List.map_cons, List.map_nil]); first | done | rfl | (simp only [List.length_drop, List.length_take]; rfl)) ?_; (with_reducible refine (impl_foldEnds.calls k a0 t166 _ A5.out).mono ?_); rintro e w8 ⟨v167, rfl, ho0, hb⟩; refine ⟨_, rfl, ?_⟩; have n0_ := Aside0.mk (Kd.R_lower ho0 (below_size (by repeat (first | (with_reducible first | exact HB.out | apply below_alloc | apply pw_below_drewN | apply below_drew1) | exact HB.out)))); have n1_ := Aside0.mk (below_step (by repeat (first | (with_reducible first | exact HB.out | apply below_alloc | apply pw_below_drewN | apply below_drew1) | exact HB.out)) hb); clear HB; have HO168 := n0_; have HB := n1_; clear n0_ n1_; (try clear hb); (try clear hb2); (try clear hk); (try clear hi); (try clear ho0); obtain ⟨Ao9, co9, eo9⟩ := Kd.R_slice HO168.out; subst eo9; have p169 : 0 ≤ (a1 : Int) := of_decide_eq_true (by first | (with_reducible assumption) | assumption); have q169 : a1 < (t166.length : Int) := of_decide_eq_true (by first | (with_reducible assumption) | assumption); obtain ⟨ad169, e169, hx169_0⟩ := Kd.at_int (Kd.R_reads' HO168.out).2.2 a1 p169 q169; cases e169; replace p169 := eq_true p169; replace q169 := eq_true q169))
        go_ret
        exact ⟨by first | rfl | (simp [errW_none, errW_some] <;> rfl) | (simp [*, errW_none, errW_some] <;> rfl), by repeat (first | (with_reducible first | exact HB.out | apply below_alloc | apply pw_below_drewN | apply below_drew1) | exact HB.out)⟩
      · rw [if_neg c7] at H
        exact absurd H (by simp)
    · rw [if_neg c6] at H
      exact absurd H (by simp)
  · replace c4 := Bool.eq_false_iff.mpr c4
    subst c4
    have H1 : (some (-1)) = some r := by rw [if_neg (show ¬ (false = true) by decide)] at H; exact H
    clear H
    have H := H1
    clear H1
    obtain rfl := Option.some.inj H
    go_enter Tryd.func15, Tryd.ntmps15
    go_wp2_with (first | ((with_reducible refine gate_callee (f := 36) rfl ?_); refine goesL_ (some 7) rfl rfl Tryd.func36 (by kernel_rfl) rfl #[.string a0, .int .i64 a1] rfl (by (try simp only [List.map_toArray, List.map_cons, List.map_nil]); first | done | rfl | (simp only [List.length_drop, List.length_take]; rfl)) ?_; (with_reducible refine (impl_isLine.calls k a0 a1 false _ A3.out).mono ?_); rintro e w' ⟨rfl, ⟨nd, rfl⟩⟩; refine ⟨_, rfl, ?_⟩))
    go_ret
    exact ⟨by first | rfl | (simp [errW_none, errW_some] <;> rfl) | (simp [*, errW_none, errW_some] <;> rfl), by repeat (first | (with_reducible first | exact HB.out | apply below_alloc | apply pw_below_drewN | apply below_drew1) | exact HB.out)⟩

end Go.Proofs.YtdpnfdoplahfgaaDoor.X
