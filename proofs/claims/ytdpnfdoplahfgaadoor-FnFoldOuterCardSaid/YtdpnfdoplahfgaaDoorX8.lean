-- written by a program of this session (wip/xprint.py) out of the translation
import Derived.Test.YtdpnfdoplahfgaaDoorX0
import Derived.Test.YtdpnfdoplahfgaaDoorX1
import Derived.Test.YtdpnfdoplahfgaaDoorX6
namespace Go.Proofs.YtdpnfdoplahfgaaDoor.X
open Go.RowKit Go.Proofs.YtdpnfdoplahfgaaDoorW.PrintWords Go.Proofs.YtdpnfdoplahfgaaDoorW.PrintLast Go.Proofs.YtdpnfdoplahfgaaDoorW.PrintMore
attribute [local go_sem] max2_int min2_int max_two min_two max_three min_three max_four min_four   -- for this text's walks alone
set_option linter.unusedVariables false
set_option linter.unusedSimpArgs false

/-! ### spec_l20Deep: function 46 -/
def spec_l20Deep.l0 : Nat → ByteArray → Int → List Int → Int → Option (ByteArray × Int)
  | 0, _, _, _, _ => none
  | k + 1, x5, x6, x1000, x1001 => if x6 > 0 then ((some (([(⟨#[]⟩ : ByteArray), (⟨#[32]⟩ : ByteArray), (⟨#[32, 32]⟩ : ByteArray), (⟨#[32, 32, 32]⟩ : ByteArray)] : List ByteArray) : List ByteArray)).bind fun y308 => ((spec_l20Rd_pick.f k x1000 x1001 4).bind fun bt311 => (if 0 ≤ bt311.1 then (if bt311.1 < (y308.length : Int) then (if x5.size + (rdOf ByteArray.empty y308 bt311.1).size ≤ 9223372036854775807 then ((some (([(⟨#[97]⟩ : ByteArray), (⟨#[98]⟩ : ByteArray), (⟨#[]⟩ : ByteArray), (⟨#[99, 99]⟩ : ByteArray)] : List ByteArray) : List ByteArray)).bind fun y314 => ((spec_l20Rd_pick.f k x1000 bt311.2 4).bind fun bt317 => (if 0 ≤ bt317.1 then (if bt317.1 < (y314.length : Int) then (if (x5 ++ (rdOf ByteArray.empty y308 bt311.1)).size + (rdOf ByteArray.empty y314 bt317.1).size ≤ 9223372036854775807 then (if ((x5 ++ (rdOf ByteArray.empty y308 bt311.1)) ++ (rdOf ByteArray.empty y314 bt317.1)).size + 1 ≤ 9223372036854775807 then (spec_l20Deep.l0 k (((x5 ++ (rdOf ByteArray.empty y308 bt311.1)) ++ (rdOf ByteArray.empty y314 bt317.1)) ++ (⟨#[10]⟩ : ByteArray)) (wrap64 (x6 - 1)) x1000 bt317.2) else (none)) else (none)) else (none)) else (none)))) else (none)) else (none)) else (none)))) else (some (x5, x1001))
def spec_l20Deep.f (k : Nat) (s0_0 : List Int) (s0_1 : Int) (a1 : Int) : Option (ByteArray × Int) := (spec_l20Rd_odd.f k s0_0 s0_1 a1).bind fun bt302 => (if bt302.1 = true then ((spec_l20Text.f k s0_0 bt302.2 3).bind fun bt304 => (some (bt304.1, bt304.2))) else ((spec_l20Rd_pick.f k s0_0 bt302.2 12).bind fun bt306 => (spec_l20Deep.l0 k (⟨#[]⟩ : ByteArray) bt306.1 s0_0 bt306.2)))
theorem spec_l20Deep.mono_l : ∀ k, (∀ y0 y1 y2 y3, LeO (spec_l20Deep.l0 k y0 y1 y2 y3) (spec_l20Deep.l0 (k + 1) y0 y1 y2 y3))
  | 0 => fun _ _ _ _ r h => by simp [spec_l20Deep.l0] at h
  | k + 1 => by
    have ih0 := spec_l20Deep.mono_l k
    · intro y0 y1 y2 y3
      unfold spec_l20Deep.l0
      repeat' first
      | (with_reducible exact ih0 _ _ _ _)
      | (with_reducible exact spec_l20Rd_odd.mono _ _ _ _)
      | (with_reducible exact spec_l20Rd_pick.mono _ _ _ _)
      | (with_reducible exact spec_l20Text.mono _ _ _ _)
      | (with_reducible exact LeO.refl _)
      | (with_reducible exact LeO.none _)
      | (with_reducible refine LeO.ite ?_ ?_)
      | (with_reducible refine LeO.bind ?_ (fun _ => ?_))
      | exact ih0 _ _ _ _
      | exact spec_l20Rd_odd.mono _ _ _ _
      | exact spec_l20Rd_pick.mono _ _ _ _
      | exact spec_l20Text.mono _ _ _ _
      | exact LeO.none _
      | refine LeO.ite ?_ ?_
      | refine LeO.bind ?_ (fun _ => ?_)
theorem spec_l20Deep.mono : ∀ a0 a1 a2 k, LeO (spec_l20Deep.f k a0 a1 a2) (spec_l20Deep.f (k + 1) a0 a1 a2) := by
  intro a0 a1 a2 k
  have ih0 := spec_l20Deep.mono_l k
  unfold spec_l20Deep.f
  repeat' first
      | (with_reducible exact ih0 _ _ _ _)
      | (with_reducible exact spec_l20Rd_odd.mono _ _ _ _)
      | (with_reducible exact spec_l20Rd_pick.mono _ _ _ _)
      | (with_reducible exact spec_l20Text.mono _ _ _ _)
      | (with_reducible exact LeO.refl _)
      | (with_reducible exact LeO.none _)
      | (with_reducible refine LeO.ite ?_ ?_)
      | (with_reducible refine LeO.bind ?_ (fun _ => ?_))
      | exact ih0 _ _ _ _
      | exact spec_l20Rd_odd.mono _ _ _ _
      | exact spec_l20Rd_pick.mono _ _ _ _
      | exact spec_l20Text.mono _ _ _ _
      | exact LeO.none _
      | refine LeO.ite ?_ ?_
      | refine LeO.bind ?_ (fun _ => ?_)
def spec_l20Deep.T7 : Bool × List (List Nat × List Nat) := (true, [([], []), ([], []), ([], []), ([2], [2]), ([1, 3], [1, 3]), ([4], [4]), ([0, 5], [0, 5]), ([], []), ([], []), ([8, 3], [8]), ([7, 9], [7, 9]), ([10], [10]), ([6, 11], [6, 11]), ([12], [12]), ([13, 9, 0, 1, 2, 3, 4, 5, 6, 7, 8, 9, 10, 11, 12, 13], [0, 13])])
def spec_l20Deep.B7 : List Nat := [0, 0, 0, 4, 14, 30, 63, 0, 0, 268, 908, 1932, 4095, 8191, 16383]
theorem spec_l20Deep.tab7 : rtab .any (opsOf Tryd.f46 7) = spec_l20Deep.T7 := by kernel_rfl
theorem spec_l20Deep.bits7 : waitsOk spec_l20Deep.T7.2 spec_l20Deep.B7 = true := by kernel_rfl
set_option maxHeartbeats 8000000 in
set_option maxRecDepth 100000 in
theorem spec_l20Deep.calls (k : Nat) (g : Nat) (s0_0 : List Int) (s0_1 : Int) (a1 : Int) (r1 : ByteArray) (r2 : Int) (w0 w : World) (hI : IsS56 w0 w g s0_0 s0_1) (hB : Below w0.heap.size w0 w) (h : spec_l20Deep.f k s0_0 s0_1 a1 = some (r1, r2)) :
    Calls Tryd.prog 46 #[.pointer (some ⟨g, 0, none⟩), .int .i64 a1] w fun e w' => e = .returned (.string r1) ∧ IsS56 w0 w' g s0_0 r2 ∧ Below w0.heap.size w0 w' ∧ KeepBut w w' g none := by
  have HI0 := Aside0.mk hI
  have HK := Aside0.mk (KeepBut.refl w g none)
  have HL := Aside0.mk hB.size
  clear hI
  have HW0 := Aside0.mk hB.size
  have HB := Aside0.mk hB
  clear hB
  have H : ((spec_l20Rd_odd.f k s0_0 s0_1 a1).bind fun bt302 => (if bt302.1 = true then ((spec_l20Text.f k s0_0 bt302.2 3).bind fun bt304 => (some (bt304.1, bt304.2))) else ((spec_l20Rd_pick.f k s0_0 bt302.2 12).bind fun bt306 => (spec_l20Deep.l0 k (⟨#[]⟩ : ByteArray) bt306.1 s0_0 bt306.2)))) = some (r1, r2) := h
  clear h
  replace H := Option.bind_eq_some_iff.mp H
  obtain ⟨⟨t302, t303⟩, A30, H⟩ := H
  replace H : (if t302 = true then ((spec_l20Text.f k s0_0 t303 3).bind fun bt304 => (some (bt304.1, bt304.2))) else ((spec_l20Rd_pick.f k s0_0 t303 12).bind fun bt306 => (spec_l20Deep.l0 k (⟨#[]⟩ : ByteArray) bt306.1 s0_0 bt306.2))) = some (r1, r2) := H
  have A3 := Aside0.mk A30
  clear A30
  by_cases c4 : t302 = true
  · subst c4
    have H1 : ((spec_l20Text.f k s0_0 t303 3).bind fun bt304 => (some (bt304.1, bt304.2))) = some (r1, r2) := by rw [if_pos rfl] at H; exact H
    clear H
    have H := H1
    clear H1
    replace H := Option.bind_eq_some_iff.mp H
    obtain ⟨⟨t304, t305⟩, A50, H⟩ := H
    replace H : (some (t304, t305)) = some (r1, r2) := H
    have A5 := Aside0.mk A50
    clear A50
    simp only [Option.some.injEq, Prod.mk.injEq] at H
    obtain ⟨rfl, rfl⟩ := H
    go_enter Tryd.func46, Tryd.ntmps46
    go_wp2_with (first | ((with_reducible refine gate_callee (f := 50) rfl ?_); refine goesL_ (some 9) rfl rfl Tryd.func50 (by kernel_rfl) rfl #[.pointer (some ⟨g, 0, none⟩), .int .i64 a1] rfl (by (try simp only [List.map_toArray, List.map_cons, List.map_nil]); first | done | rfl | (simp only [List.length_drop, List.length_take]; rfl)) ?_; (with_reducible refine (spec_l20Rd_odd.calls k g s0_0 s0_1 a1 true t303 w0 _ ?side1 ?side2 A3.out).mono ?_); (case side1 => repeat (first | (with_reducible first | exact HI0.out | apply IsS56.alloc | apply IsS56.drewN | apply IsS56.drew | apply IsS56.set_1) | exact HI0.out)); (case side2 => repeat (first | (with_reducible first | exact HB.out | apply below_alloc | apply pw_below_drewN | apply below_drew1 | refine below_set ?_ (IsS56.ge HI0.out)) | exact HB.out)); rintro e w6 ⟨rfl, hi, hb, hk⟩; refine ⟨_, rfl, ?_⟩; have n0_ := Aside0.mk (KeepBut.trans (by repeat (first | (with_reducible first | exact HK.out | apply KeepBut.set_ | apply keep_drewN | apply keep_drew | apply keep_alloc) | exact HK.out)) hk (.inl rfl)); have n1_ := Aside0.mk (hb); have n2_ := Aside0.mk (hi); clear HK; clear HB; clear HI0; have HK := n0_; have HB := n1_; have HI0 := n2_; clear n0_ n1_ n2_; (try clear hb); (try clear hb2); (try clear hk); (try clear hi)) | ((with_reducible refine gate_callee (f := 54) rfl ?_); refine goesL_ (some 11) rfl rfl Tryd.func54 (by kernel_rfl) rfl #[.pointer (some ⟨g, 0, none⟩), .int .i64 3] rfl (by (try simp only [List.map_toArray, List.map_cons, List.map_nil]); first | done | rfl | (simp only [List.length_drop, List.length_take]; rfl)) ?_; (with_reducible refine (spec_l20Text.calls k g s0_0 t303 3 t304 t305 w0 _ ?side1 ?side2 A5.out).mono ?_); (case side1 => repeat (first | (with_reducible first | exact HI0.out | apply IsS56.alloc | apply IsS56.drewN | apply IsS56.drew | apply IsS56.set_1) | exact HI0.out)); (case side2 => repeat (first | (with_reducible first | exact HB.out | apply below_alloc | apply pw_below_drewN | apply below_drew1 | refine below_set ?_ (IsS56.ge HI0.out)) | exact HB.out)); rintro e w7 ⟨rfl, hi, hb, hk⟩; refine ⟨_, rfl, ?_⟩; have n0_ := Aside0.mk (KeepBut.trans (by repeat (first | (with_reducible first | exact HK.out | apply KeepBut.set_ | apply keep_drewN | apply keep_drew | apply keep_alloc) | exact HK.out)) hk (.inl rfl)); have n1_ := Aside0.mk (hb); have n2_ := Aside0.mk (hi); clear HK; clear HB; clear HI0; have HK := n0_; have HB := n1_; have HI0 := n2_; clear n0_ n1_ n2_; (try clear hb); (try clear hb2); (try clear hk); (try clear hi)))
    go_ret
    exact ⟨by first | rfl | (simp [errW_none, errW_some] <;> rfl) | (simp [*, errW_none, errW_some] <;> rfl), by repeat (first | (with_reducible first | exact HI0.out | apply IsS56.alloc | apply IsS56.drewN | apply IsS56.drew | apply IsS56.set_1) | exact HI0.out), by repeat (first | (with_reducible first | exact HB.out | apply below_alloc | apply pw_below_drewN | apply below_drew1 | refine below_set ?_ (IsS56.ge HI0.out)) | exact HB.out), by repeat (first | (with_reducible first | exact HK.out | apply KeepBut.set_ | apply keep_drewN | apply keep_drew | apply keep_alloc) | exact HK.out)⟩
  · replace c4 := Bool.eq_false_iff.mpr c4
    subst c4
    have H1 : ((spec_l20Rd_pick.f k s0_0 t303 12).bind fun bt306 => (spec_l20Deep.l0 k (⟨#[]⟩ : ByteArray) bt306.1 s0_0 bt306.2)) = some (r1, r2) := by rw [if_neg (show ¬ (false = true) by decide)] at H; exact H
    clear H
    have H := H1
    clear H1
    replace H := Option.bind_eq_some_iff.mp H
    obtain ⟨⟨t306, t307⟩, A80, H⟩ := H
    replace H : (spec_l20Deep.l0 k (⟨#[]⟩ : ByteArray) t306 s0_0 t307) = some (r1, r2) := H
    have A8 := Aside0.mk A80
    clear A80
    have H' := Aside0.mk H
    clear H
    go_enter Tryd.func46, Tryd.ntmps46
    go_wp2_with (first | ((with_reducible refine gate_callee (f := 50) rfl ?_); refine goesL_ (some 9) rfl rfl Tryd.func50 (by kernel_rfl) rfl #[.pointer (some ⟨g, 0, none⟩), .int .i64 a1] rfl (by (try simp only [List.map_toArray, List.map_cons, List.map_nil]); first | done | rfl | (simp only [List.length_drop, List.length_take]; rfl)) ?_; (with_reducible refine (spec_l20Rd_odd.calls k g s0_0 s0_1 a1 false t303 w0 _ ?side1 ?side2 A3.out).mono ?_); (case side1 => repeat (first | (with_reducible first | exact HI0.out | apply IsS56.alloc | apply IsS56.drewN | apply IsS56.drew | apply IsS56.set_1) | exact HI0.out)); (case side2 => repeat (first | (with_reducible first | exact HB.out | apply below_alloc | apply pw_below_drewN | apply below_drew1 | refine below_set ?_ (IsS56.ge HI0.out)) | exact HB.out)); rintro e w9 ⟨rfl, hi, hb, hk⟩; refine ⟨_, rfl, ?_⟩; have n0_ := Aside0.mk (KeepBut.trans (by repeat (first | (with_reducible first | exact HK.out | apply KeepBut.set_ | apply keep_drewN | apply keep_drew | apply keep_alloc) | exact HK.out)) hk (.inl rfl)); have n1_ := Aside0.mk (hb); have n2_ := Aside0.mk (hi); clear HK; clear HB; clear HI0; have HK := n0_; have HB := n1_; have HI0 := n2_; clear n0_ n1_ n2_; (try clear hb); (try clear hb2); (try clear hk); (try clear hi)) | ((with_reducible refine gate_callee (f := 47) rfl ?_); refine goesL_ (some 13) rfl rfl Tryd.func47 (by kernel_rfl) rfl #[.pointer (some ⟨g, 0, none⟩), .int .i64 12] rfl (by (try simp only [List.map_toArray, List.map_cons, List.map_nil]); first | done | rfl | (simp only [List.length_drop, List.length_take]; rfl)) ?_; (with_reducible refine (spec_l20Rd_pick.calls k g s0_0 t303 12 t306 t307 w0 _ ?side1 ?side2 A8.out).mono ?_); (case side1 => repeat (first | (with_reducible first | exact HI0.out | apply IsS56.alloc | apply IsS56.drewN | apply IsS56.drew | apply IsS56.set_1) | exact HI0.out)); (case side2 => repeat (first | (with_reducible first | exact HB.out | apply below_alloc | apply pw_below_drewN | apply below_drew1 | refine below_set ?_ (IsS56.ge HI0.out)) | exact HB.out)); rintro e w10 ⟨rfl, hi, hb, hk⟩; refine ⟨_, rfl, ?_⟩; have n0_ := Aside0.mk (KeepBut.trans (by repeat (first | (with_reducible first | exact HK.out | apply KeepBut.set_ | apply keep_drewN | apply keep_drew | apply keep_alloc) | exact HK.out)) hk (.inl rfl)); have n1_ := Aside0.mk (hb); have n2_ := Aside0.mk (hi); clear HK; clear HB; clear HI0; have HK := n0_; have HB := n1_; have HI0 := n2_; clear n0_ n1_ n2_; (try clear hb); (try clear hb2); (try clear hk); (try clear hi)))
    go_loopg [5, 6] k (fun kq v5 v6 w' => ∃ (x5_1 : ByteArray) (x6_1 : Int) (x1001_1 : Int), v5 = .string x5_1 ∧ v6 = .int .i64 x6_1 ∧ Aside0 (spec_l20Deep.l0 kq x5_1 x6_1 s0_0 x1001_1 = some (r1, r2)) ∧ Aside0 (kq ≤ k) ∧ Aside0 (IsS56 w0 w' g s0_0 x1001_1) ∧ Aside0 (KeepBut w w' g none) ∧ Aside0 (Below w0.heap.size w0 w'))
    case atStart => exact ⟨((⟨#[]⟩ : ByteArray)), (t306), (t307), (by first | rfl | (simp; done) | (simp [*]; done)), (by first | rfl | (simp; done) | (simp [*]; done)), H', ⟨Nat.le_refl _⟩, ⟨by repeat (first | (with_reducible first | exact HI0.out | apply IsS56.alloc | apply IsS56.drewN | apply IsS56.drew | apply IsS56.set_1) | exact HI0.out)⟩, ⟨by repeat (first | (with_reducible first | exact HK.out | apply KeepBut.set_ | apply keep_drewN | apply keep_drew | apply keep_alloc) | exact HK.out)⟩, ⟨by repeat (first | (with_reducible first | exact HB.out | apply below_alloc | apply pw_below_drewN | apply below_drew1 | refine below_set ?_ (IsS56.ge HI0.out)) | exact HB.out)⟩⟩
    case round =>
      clear H'
      try clear p2
      try clear c4
      try clear c5
      obtain ⟨x5_1, x6_1, x1001_1, rfl, rfl, HA, HK1, HI0, HK, HB⟩ := hrel
      cases gk with
      | zero => exact absurd HA.out (by simp [spec_l20Deep.l0])
      | succ k1 =>
        have H := HA.out
        clear HA
        simp only [spec_l20Deep.l0] at H
        by_cases c11 : x6_1 > 0
        · rw [if_pos c11] at H
          have c11b0 : decide (0 < x6_1) = true := decide_eq_true c11
          clear c11
          obtain ⟨y308, hy308⟩ : ∃ y_ : List ByteArray, y_ = (([(⟨#[]⟩ : ByteArray), (⟨#[32]⟩ : ByteArray), (⟨#[32, 32]⟩ : ByteArray), (⟨#[32, 32, 32]⟩ : ByteArray)] : List ByteArray)) := ⟨_, rfl⟩
          replace H : ((spec_l20Rd_pick.f k1 s0_0 x1001_1 4).bind fun bt311 => (if 0 ≤ bt311.1 then (if bt311.1 < (y308.length : Int) then (if x5_1.size + (rdOf ByteArray.empty y308 bt311.1).size ≤ 9223372036854775807 then ((some (([(⟨#[97]⟩ : ByteArray), (⟨#[98]⟩ : ByteArray), (⟨#[]⟩ : ByteArray), (⟨#[99, 99]⟩ : ByteArray)] : List ByteArray) : List ByteArray)).bind fun y314 => ((spec_l20Rd_pick.f k1 s0_0 bt311.2 4).bind fun bt317 => (if 0 ≤ bt317.1 then (if bt317.1 < (y314.length : Int) then (if (x5_1 ++ (rdOf ByteArray.empty y308 bt311.1)).size + (rdOf ByteArray.empty y314 bt317.1).size ≤ 9223372036854775807 then (if ((x5_1 ++ (rdOf ByteArray.empty y308 bt311.1)) ++ (rdOf ByteArray.empty y314 bt317.1)).size + 1 ≤ 9223372036854775807 then (spec_l20Deep.l0 k1 (((x5_1 ++ (rdOf ByteArray.empty y308 bt311.1)) ++ (rdOf ByteArray.empty y314 bt317.1)) ++ (⟨#[10]⟩ : ByteArray)) (wrap64 (x6_1 - 1)) s0_0 bt317.2) else (none)) else (none)) else (none)) else (none)))) else (none)) else (none)) else (none))) = some (r1, r2) := by first | (rw [hy308]; with_reducible exact H) | (have H2_ := (Option.bind_some _ _).symm.trans H; rw [hy308]; with_reducible exact H2_) | (have H2_ := (Option.bind_some _ _).symm.trans H; with_reducible exact H2_) | with_reducible exact H | (rw [hy308]; exact H) | exact H
          have Ny308 := Aside0.mk hy308
          clear hy308
          replace H := Option.bind_eq_some_iff.mp H
          obtain ⟨⟨t311, t312⟩, A120, H⟩ := H
          replace H : (if 0 ≤ t311 then (if t311 < (y308.length : Int) then (if x5_1.size + (rdOf ByteArray.empty y308 t311).size ≤ 9223372036854775807 then ((some (([(⟨#[97]⟩ : ByteArray), (⟨#[98]⟩ : ByteArray), (⟨#[]⟩ : ByteArray), (⟨#[99, 99]⟩ : ByteArray)] : List ByteArray) : List ByteArray)).bind fun y314 => ((spec_l20Rd_pick.f k1 s0_0 t312 4).bind fun bt317 => (if 0 ≤ bt317.1 then (if bt317.1 < (y314.length : Int) then (if (x5_1 ++ (rdOf ByteArray.empty y308 t311)).size + (rdOf ByteArray.empty y314 bt317.1).size ≤ 9223372036854775807 then (if ((x5_1 ++ (rdOf ByteArray.empty y308 t311)) ++ (rdOf ByteArray.empty y314 bt317.1)).size + 1 ≤ 9223372036854775807 then (spec_l20Deep.l0 k1 (((x5_1 ++ (rdOf ByteArray.empty y308 t311)) ++ (rdOf ByteArray.empty y314 bt317.1)) ++ (⟨#[10]⟩ : ByteArray)) (wrap64 (x6_1 - 1)) s0_0 bt317.2) else (none)) else (none)) else (none)) else (none)))) else (none)) else (none)) else (none)) = some (r1, r2) := H
          have A12 := Aside0.mk A120
          clear A120
          by_cases c13 : 0 ≤ t311
          · rw [if_pos c13] at H
            have c13b0 : decide (0 ≤ t311) = true := decide_eq_true c13
            clear c13
            by_cases c14 : t311 < (y308.length : Int)
            · rw [if_pos c14] at H
              have c14b0 : decide (t311 < (y308.length : Int)) = true := decide_eq_true c14
              clear c14
              by_cases c15 : x5_1.size + (rdOf ByteArray.empty y308 t311).size ≤ 9223372036854775807
              · rw [if_pos c15] at H
                have c15b0 := eq_true c15
                have c15b1 : decide (x5_1.size + (rdOf ByteArray.empty y308 t311).size ≤ 9223372036854775807) = true := decide_eq_true c15
                try have c15b2 : (9223372036854775807 < x5_1.size + (rdOf ByteArray.empty y308 t311).size) = False := eq_false (Nat.not_lt.2 c15)
                obtain ⟨y314, hy314⟩ : ∃ y_ : List ByteArray, y_ = (([(⟨#[97]⟩ : ByteArray), (⟨#[98]⟩ : ByteArray), (⟨#[]⟩ : ByteArray), (⟨#[99, 99]⟩ : ByteArray)] : List ByteArray)) := ⟨_, rfl⟩
                replace H : ((spec_l20Rd_pick.f k1 s0_0 t312 4).bind fun bt317 => (if 0 ≤ bt317.1 then (if bt317.1 < (y314.length : Int) then (if (x5_1 ++ (rdOf ByteArray.empty y308 t311)).size + (rdOf ByteArray.empty y314 bt317.1).size ≤ 9223372036854775807 then (if ((x5_1 ++ (rdOf ByteArray.empty y308 t311)) ++ (rdOf ByteArray.empty y314 bt317.1)).size + 1 ≤ 9223372036854775807 then (spec_l20Deep.l0 k1 (((x5_1 ++ (rdOf ByteArray.empty y308 t311)) ++ (rdOf ByteArray.empty y314 bt317.1)) ++ (⟨#[10]⟩ : ByteArray)) (wrap64 (x6_1 - 1)) s0_0 bt317.2) else (none)) else (none)) else (none)) else (none))) = some (r1, r2) := by first | (rw [hy314]; with_reducible exact H) | (have H2_ := (Option.bind_some _ _).symm.trans H; rw [hy314]; with_reducible exact H2_) | (have H2_ := (Option.bind_some _ _).symm.trans H; with_reducible exact H2_) | with_reducible exact H | (rw [hy314]; exact H) | exact H
                have Ny314 := Aside0.mk hy314
                clear hy314
                replace H := Option.bind_eq_some_iff.mp H
                obtain ⟨⟨t317, t318⟩, A160, H⟩ := H
                replace H : (if 0 ≤ t317 then (if t317 < (y314.length : Int) then (if (x5_1 ++ (rdOf ByteArray.empty y308 t311)).size + (rdOf ByteArray.empty y314 t317).size ≤ 9223372036854775807 then (if ((x5_1 ++ (rdOf ByteArray.empty y308 t311)) ++ (rdOf ByteArray.empty y314 t317)).size + 1 ≤ 9223372036854775807 then (spec_l20Deep.l0 k1 (((x5_1 ++ (rdOf ByteArray.empty y308 t311)) ++ (rdOf ByteArray.empty y314 t317)) ++ (⟨#[10]⟩ : ByteArray)) (wrap64 (x6_1 - 1)) s0_0 t318) else (none)) else (none)) else (none)) else (none)) = some (r1, r2) := H
                have A16 := Aside0.mk A160
                clear A160
                by_cases c17 : 0 ≤ t317
                · rw [if_pos c17] at H
                  have c17b0 : decide (0 ≤ t317) = true := decide_eq_true c17
                  clear c17
                  by_cases c18 : t317 < (y314.length : Int)
                  · rw [if_pos c18] at H
                    have c18b0 : decide (t317 < (y314.length : Int)) = true := decide_eq_true c18
                    clear c18
                    by_cases c19 : (x5_1 ++ (rdOf ByteArray.empty y308 t311)).size + (rdOf ByteArray.empty y314 t317).size ≤ 9223372036854775807
                    · rw [if_pos c19] at H
                      have c19b0 := eq_true c19
                      have c19b1 : decide ((x5_1 ++ (rdOf ByteArray.empty y308 t311)).size + (rdOf ByteArray.empty y314 t317).size ≤ 9223372036854775807) = true := decide_eq_true c19
                      try have c19b3 : (9223372036854775807 < x5_1.size + (rdOf ByteArray.empty y308 t311).size + (rdOf ByteArray.empty y314 t317).size) = False := eq_false (by have h_ := c19; first | omega | (simp at h_ ⊢; omega) | (simp at h_ ⊢; exact h_))
                      try have c19b2 : (9223372036854775807 < (x5_1 ++ (rdOf ByteArray.empty y308 t311)).size + (rdOf ByteArray.empty y314 t317).size) = False := eq_false (Nat.not_lt.2 c19)
                      by_cases c20 : ((x5_1 ++ (rdOf ByteArray.empty y308 t311)) ++ (rdOf ByteArray.empty y314 t317)).size + 1 ≤ 9223372036854775807
                      · rw [if_pos c20] at H
                        have c20b0 := eq_true c20
                        have c20b1 : decide (((x5_1 ++ (rdOf ByteArray.empty y308 t311)) ++ (rdOf ByteArray.empty y314 t317)).size + 1 ≤ 9223372036854775807) = true := decide_eq_true c20
                        try have c20b3 : (9223372036854775807 < x5_1.size + (rdOf ByteArray.empty y308 t311).size + (rdOf ByteArray.empty y314 t317).size + 1) = False := eq_false (by have h_ := c20; first | omega | (simp at h_ ⊢; omega) | (simp at h_ ⊢; exact h_))
                        try have c20b2 : (9223372036854775807 < ((x5_1 ++ (rdOf ByteArray.empty y308 t311)) ++ (rdOf ByteArray.empty y314 t317)).size + 1) = False := eq_false (Nat.not_lt.2 c20)
                        have H' := Aside0.mk H
                        clear H
                        try go_wp2
                        have pi313 : (0 ≤ (t311 : Int)) = True := eq_true (of_decide_eq_true (by first | (with_reducible assumption) | assumption))
                        have qi313 : (t311 < (y308.length : Int)) = True := eq_true (of_decide_eq_true (by first | (with_reducible assumption) | assumption))
                        have pi319 : (0 ≤ (t317 : Int)) = True := eq_true (of_decide_eq_true (by first | (with_reducible assumption) | assumption))
                        have qi319 : (t317 < (y314.length : Int)) = True := eq_true (of_decide_eq_true (by first | (with_reducible assumption) | assumption))
                        have n0_ := Aside0.mk (IsS56.drew HI0.out)
                        have n1_ := Aside0.mk (keep_drew HK.out)
                        have n2_ := Aside0.mk (below_drew1 HB.out)
                        clear HI0
                        clear HK
                        clear HB
                        have HI0 := n0_
                        have HK := n1_
                        have HB := n2_
                        clear n0_ n1_ n2_
                        refine start_ (n := 15) (S := fun w' => True) (ds := []) #[false, false, false, false, false, false, false, false, false, false, false, false, false, false, false] (by kernel_rfl) rfl rfl trivial (fun hHeld => ?_); refine with_tabW spec_l20Deep.tab7 spec_l20Deep.bits7 (fun HT_ HW_ => ?_)
                        generalize wr.drew = w21 at HI0 HK HB hHeld ⊢
                        refine pure_ (i := 0) (N := some 18) (v := ?_) (a' := ?_) #[true, false, false, false, false, false, false, false, false, false, false, false, false, false, false] rfl rfl (any_of HT_.out (by kernel_rfl)) (fun _ _ _ h => h) (Or.inl ⟨by rfl, ?_⟩) ?_ ?_
                        rotate_left
                        · intro w'
                          go_simp
                          with_reducible rfl
                        rotate_left
                        · simp only [Act.put, List.setIfInBounds_toArray, List.set_cons_zero, List.set_cons_succ, i64_w, i32_w]
                          rfl
                        refine pure_ (i := 2) (N := some 20) (v := ?_) (a' := ?_) #[true, false, true, false, false, false, false, false, false, false, false, false, false, false, false] rfl rfl (any_of HT_.out (by kernel_rfl)) (fun _ _ _ h => h) (Or.inl ⟨by rfl, ?_⟩) ?_ ?_
                        rotate_left
                        · intro w'
                          go_simp
                          with_reducible rfl
                        rotate_left
                        · simp only [Act.put, List.setIfInBounds_toArray, List.set_cons_zero, List.set_cons_succ, i64_w, i32_w]
                          rfl
                        refine pure_ (i := 8) (N := some 26) (v := ?_) (a' := ?_) #[true, false, true, false, false, false, false, false, true, false, false, false, false, false, false] rfl rfl (any_of HT_.out (by kernel_rfl)) (fun _ _ _ h => h) (Or.inl ⟨by rfl, ?_⟩) ?_ ?_
                        rotate_left
                        · intro w'
                          go_simp
                          with_reducible rfl
                        rotate_left
                        · simp only [Act.put, List.setIfInBounds_toArray, List.set_cons_zero, List.set_cons_succ, i64_w, i32_w]
                          rfl
                        refine inv_at [1, 3, 4, 5, 6, 7, 9, 10, 11, 12, 13, 14] (fun a0_ b a w' => ∃ (v309 : Value) (adz_v309 : Addr) (v315 : Value) (adz_v315 : Addr) (m4_ : Value) (m10_ : Value), a = putSel a0_ b [(1, 19, v309), (3, 21, .int .i64 t311), (4, 22, m4_), (5, 23, .string (rdOf ByteArray.empty y308 t311)), (6, 24, .string (x5_1 ++ (rdOf ByteArray.empty y308 t311))), (7, 25, v315), (9, 27, .int .i64 t317), (10, 28, m10_), (11, 29, .string (rdOf ByteArray.empty y314 t317)), (12, 30, .string ((x5_1 ++ (rdOf ByteArray.empty y308 t311)) ++ (rdOf ByteArray.empty y314 t317))), (13, 31, .string (((x5_1 ++ (rdOf ByteArray.empty y308 t311)) ++ (rdOf ByteArray.empty y314 t317)) ++ (⟨#[10]⟩ : ByteArray))), (14, 5, .string (((x5_1 ++ (rdOf ByteArray.empty y308 t311)) ++ (rdOf ByteArray.empty y314 t317)) ++ (⟨#[10]⟩ : ByteArray)))] ∧ (b 3 = false → IsS56 w0 w' g s0_0 x1001_1) ∧ (KeepBut w w' g none) ∧ (Below w0.heap.size w0 w') ∧ (b 1 = true → Kd.R Kd.string 9 w' w.heap.size (fun _ => True) v309 y308) ∧ (b 1 = true → ∃ c_, (v309 : Value) = .slice (some adz_v309) y308.length c_) ∧ (b 3 = true → b 9 = false → IsS56 w0 w' g s0_0 t312) ∧ (b 7 = true → Kd.R Kd.string 9 w' w.heap.size (fun _ => True) v315 y314) ∧ (b 7 = true → ∃ c_, (v315 : Value) = .slice (some adz_v315) y314.length c_) ∧ (b 9 = true → IsS56 w0 w' g s0_0 t318) ∧ (b 4 = true → (m4_ : Value) = .pointer (some (adz_v309.add (t311).toNat))) ∧ (b 10 = true → (m10_ : Value) = .pointer (some (adz_v315.add (t317).toNat)))) HT_.out HW_.out (by kernel_rfl) (by kernel_rfl) ?_ ?_ ?_
                        · exact ⟨.bool false, ⟨0, 0, none⟩, .bool false, ⟨0, 0, none⟩, .bool false, .bool false, by simp only [putSel, Bool.false_eq_true, if_false], fun _ => HI0.out, HK.out, HB.out, fun h_ => absurd h_ (by decide), fun h_ => absurd h_ (by decide), fun h_ => absurd h_ (by decide), fun h_ => absurd h_ (by decide), fun h_ => absurd h_ (by decide), fun h_ => absurd h_ (by decide), fun h_ => absurd h_ (by decide), fun h_ => absurd h_ (by decide)⟩
                        · skip
                          clear HB HI0 HK
                          refine steps_cons ?_ ?_
                          · rintro b a w' ⟨v309, adz_v309, v315, adz_v315, m4_, m10_, ha, Q_HI0, Q_HK, Q_HB, Q_HO310, Q_HA_HO310, Q_HI0_e3, Q_HO316, Q_HA_HO316, Q_HI0_e9, Q_X4_, Q_X10_⟩ hb_ hon hoff
                            refine ⟨_, rfl, fun K hK => ?_⟩
                            replace ha := Aside0.mk ha
                            have HK := Aside0.mk Q_HK
                            have HB := Aside0.mk Q_HB
                            refine Kd.R_lit_step Kd.string _ 9 ?hg (N := 19) ?hd (xs := ([(⟨#[]⟩ : ByteArray), (⟨#[32]⟩ : ByteArray), (⟨#[32, 32]⟩ : ByteArray), (⟨#[32, 32, 32]⟩ : ByteArray)] : List ByteArray)) (inner := [.string (⟨#[]⟩ : ByteArray), .string (⟨#[32]⟩ : ByteArray), .string (⟨#[32, 32]⟩ : ByteArray), .string (⟨#[32, 32, 32]⟩ : ByteArray)]) (ok := fun _ => True) (okp := fun _ => True) ?hr ?hp (fun _ hk => hk) trivial (Below.refl _ _) (Nat.le_refl _) (by simp) ?_; (case hd => rfl); (case hg => rfl); (case hr => first | (go_simp; done) | (go_simp; rfl)); (case hp => exact (Reps.one (show Kd.M Kd.string _ _ _ (⟨#[]⟩ : ByteArray) [.string (⟨#[]⟩ : ByteArray)] from rfl) (Reps.one (show Kd.M Kd.string _ _ _ (⟨#[32]⟩ : ByteArray) [.string (⟨#[32]⟩ : ByteArray)] from rfl) (Reps.one (show Kd.M Kd.string _ _ _ (⟨#[32, 32]⟩ : ByteArray) [.string (⟨#[32, 32]⟩ : ByteArray)] from rfl) (Reps.one (show Kd.M Kd.string _ _ _ (⟨#[32, 32, 32]⟩ : ByteArray) [.string (⟨#[32, 32, 32]⟩ : ByteArray)] from rfl) (Reps.none _ _))))))
                            intro v309 w22 ho23 hb hg_ hnew_
                            clear hg_ hnew_
                            (first | rw [← Ny308.out] at ho23 | (simp only [Int.reduceToNat] at ho23; rw [← Ny308.out] at ho23))
                            have n0_ := Aside0.mk (Kd.R_lower ho23 (keep_size (w := w) (g := g) (row := none) (by repeat (first | (with_reducible first | exact HK.out | apply KeepBut.set_ | apply keep_drewN | apply keep_drew | apply keep_alloc) | exact HK.out))))
                            have n2_ := Aside0.mk (KeepBut.trans (by repeat (first | (with_reducible first | exact HK.out | apply KeepBut.set_ | apply keep_drewN | apply keep_drew | apply keep_alloc) | exact HK.out)) (KeepBut.of_below hb g none) (.inl rfl))
                            have n3_ := Aside0.mk (below_step (by repeat (first | (with_reducible first | exact HB.out | apply below_alloc | apply pw_below_drewN | apply below_drew1) | exact HB.out)) hb)
                            have z_HI0 := fun (h0_ : b 3 = false) => (show IsS56 w0 w22 g s0_0 x1001_1 from by first | exact (IsS56.below (by repeat (first | (with_reducible first | exact (Q_HI0 h0_) | apply IsS56.alloc | apply IsS56.drewN | apply IsS56.drew | apply IsS56.set_1) | exact (Q_HI0 h0_))) hb))
                            have z_HI0_e3 := fun (h0_ : b 3 = true) (h1_ : b 9 = false) => (show IsS56 w0 w22 g s0_0 t312 from by first | exact (IsS56.below (by repeat (first | (with_reducible first | exact (Q_HI0_e3 h0_ h1_) | apply IsS56.alloc | apply IsS56.drewN | apply IsS56.drew | apply IsS56.set_1) | exact (Q_HI0_e3 h0_ h1_))) hb))
                            have z_HO316 := fun (h0_ : b 7 = true) => (show Kd.R Kd.string 9 w22 w.heap.size (fun _ => True) v315 y314 from by first | exact (Kd.R_elder' (by (with_reducible repeat (first | apply Kd.R_alloc | apply Kd.R_drewN | apply Kd.R_drew)); exact (Q_HO316 h0_)) (Kd.R_base ho23) hb) | exact Kd.R_mono (Kd.R_elder' (by (with_reducible repeat (first | apply Kd.R_alloc | apply Kd.R_drewN | apply Kd.R_drew)); exact (Q_HO316 h0_)) (Kd.R_base ho23) hb) (fun _ h_ => by first | trivial | exact h_ | exact h_.1))
                            have z_HI0_e9 := fun (h0_ : b 9 = true) => (show IsS56 w0 w22 g s0_0 t318 from by first | exact (IsS56.below (by repeat (first | (with_reducible first | exact (Q_HI0_e9 h0_) | apply IsS56.alloc | apply IsS56.drewN | apply IsS56.drew | apply IsS56.set_1) | exact (Q_HI0_e9 h0_))) hb))
                            clear HK
                            clear HB
                            have HO310 := n0_
                            have HK := n2_
                            have HB := n3_
                            clear n0_ n2_ n3_
                            clear hb ho23
                            obtain ⟨Ao24, co24, eo24⟩ := Kd.R_slice HO310.out
                            subst eo24
                            obtain ⟨ado24, fo24, _⟩ := Kd.at_string (Kd.R_reads' HO310.out).2.2 0 (by decide) (by rw [Ny308.out]; simp)
                            cases fo24
                            refine hK.out _ _ ⟨.slice (some ado24) y308.length co24, ado24, v315, adz_v315, m4_, m10_, (by rw [ha.out]; exact putSel_upk 0 hb_ rfl rfl rfl), z_HI0, (by repeat (first | (with_reducible first | exact HK.out | apply KeepBut.set_ | apply keep_drewN | apply keep_drew | apply keep_alloc) | exact HK.out)), (by repeat (first | (with_reducible first | exact HB.out | apply below_alloc | apply pw_below_drewN | apply below_drew1) | exact HB.out)), fun _ => (by (with_reducible repeat (first | apply Kd.R_alloc | apply Kd.R_drewN | apply Kd.R_drew)); exact HO310.out), fun _ => ⟨_, rfl⟩, z_HI0_e3, z_HO316, Q_HA_HO316, z_HI0_e9, fun h0_ => absurd ((hoff 4 (by kernel_rfl)).symm.trans h0_) (by decide), Q_X10_⟩
                          refine steps_cons ?_ ?_
                          · rintro b a w' ⟨v309, adz_v309, v315, adz_v315, m4_, m10_, ha, Q_HI0, Q_HK, Q_HB, Q_HO310, Q_HA_HO310, Q_HI0_e3, Q_HO316, Q_HA_HO316, Q_HI0_e9, Q_X4_, Q_X10_⟩ hb_ hon hoff
                            refine ⟨_, rfl, fun K hK => ?_⟩
                            have e20 : a.tmps[20]? = some (.pointer (some ⟨g, 0, none⟩)) := by rw [ha]; exact (putSel_off rfl).trans rfl
                            replace ha := Aside0.mk ha
                            have HI0 := Aside0.mk (Q_HI0 hb_)
                            have HK := Aside0.mk Q_HK
                            have HB := Aside0.mk Q_HB
                            refine goes_ Tryd.func47 (by kernel_rfl) rfl #[.pointer (some ⟨g, 0, none⟩), .int .i64 4] (by rfl) rfl rfl (by first | (simp only [List.map_toArray, List.map_cons, List.map_nil, Act.eval, Array.getD_eq_getD_getElem?, Option.getD_some, e20]; done) | (simp only [List.map_toArray, List.map_cons, List.map_nil, Act.eval, Array.getD_eq_getD_getElem?, Option.getD_some, e20]; rfl)) ?_
                            with_reducible refine (spec_l20Rd_pick.calls k1 g s0_0 x1001_1 4 t311 t312 w0 _ ?side1 ?side2 A12.out).mono ?_
                            (case side1 => repeat (first | (with_reducible first | exact HI0.out | apply IsS56.alloc | apply IsS56.drewN | apply IsS56.drew | apply IsS56.set_1) | exact HI0.out))
                            (case side2 => repeat (first | (with_reducible first | exact HB.out | apply below_alloc | apply pw_below_drewN | apply below_drew1 | refine below_set ?_ (IsS56.ge HI0.out)) | exact HB.out))
                            rintro e w22 ⟨rfl, hi, hb, hk⟩
                            refine ⟨_, rfl, ?_⟩
                            have n0_ := Aside0.mk (KeepBut.trans (by repeat (first | (with_reducible first | exact HK.out | apply KeepBut.set_ | apply keep_drewN | apply keep_drew | apply keep_alloc) | exact HK.out)) hk (.inl rfl))
                            have n1_ := Aside0.mk (hb)
                            have n2_ := Aside0.mk (hi)
                            have z_HO310 := fun (h0_ : b 1 = true) => (show Kd.R Kd.string 9 w22 w.heap.size (fun _ => True) v309 y308 from by first | exact (Kd.R_mono (Kd.R_keep (IsS56.apart (show IsS56 w0 _ g s0_0 x1001_1 from by repeat (first | (with_reducible first | exact HI0.out | apply IsS56.alloc | apply IsS56.drewN | apply IsS56.drew | apply IsS56.set_1) | exact HI0.out)) (by (with_reducible repeat (first | apply Kd.R_alloc | apply Kd.R_drewN | apply Kd.R_drew)); exact (Q_HO310 h0_)) (by decide)) hk (fun _ h => h.2)) (fun _ h => h.1)) | exact Kd.R_mono (Kd.R_mono (Kd.R_keep (IsS56.apart (show IsS56 w0 _ g s0_0 x1001_1 from by repeat (first | (with_reducible first | exact HI0.out | apply IsS56.alloc | apply IsS56.drewN | apply IsS56.drew | apply IsS56.set_1) | exact HI0.out)) (by (with_reducible repeat (first | apply Kd.R_alloc | apply Kd.R_drewN | apply Kd.R_drew)); exact (Q_HO310 h0_)) (by decide)) hk (fun _ h => h.2)) (fun _ h => h.1)) (fun _ h_ => by first | trivial | exact h_ | exact h_.1))
                            have z_HO316 := fun (h0_ : b 7 = true) => (show Kd.R Kd.string 9 w22 w.heap.size (fun _ => True) v315 y314 from by first | exact (Kd.R_mono (Kd.R_keep (IsS56.apart (show IsS56 w0 _ g s0_0 x1001_1 from by repeat (first | (with_reducible first | exact HI0.out | apply IsS56.alloc | apply IsS56.drewN | apply IsS56.drew | apply IsS56.set_1) | exact HI0.out)) (by (with_reducible repeat (first | apply Kd.R_alloc | apply Kd.R_drewN | apply Kd.R_drew)); exact (Q_HO316 h0_)) (by decide)) hk (fun _ h => h.2)) (fun _ h => h.1)) | exact Kd.R_mono (Kd.R_mono (Kd.R_keep (IsS56.apart (show IsS56 w0 _ g s0_0 x1001_1 from by repeat (first | (with_reducible first | exact HI0.out | apply IsS56.alloc | apply IsS56.drewN | apply IsS56.drew | apply IsS56.set_1) | exact HI0.out)) (by (with_reducible repeat (first | apply Kd.R_alloc | apply Kd.R_drewN | apply Kd.R_drew)); exact (Q_HO316 h0_)) (by decide)) hk (fun _ h => h.2)) (fun _ h => h.1)) (fun _ h_ => by first | trivial | exact h_ | exact h_.1))
                            clear HK
                            clear HB
                            clear HI0
                            have HK := n0_
                            have HB := n1_
                            have HI0 := n2_
                            clear n0_ n1_ n2_
                            (try clear hb)
                            (try clear hb2)
                            (try clear hk)
                            (try clear hi)
                            refine hK.out _ _ ⟨v309, adz_v309, v315, adz_v315, m4_, m10_, (by rw [ha.out]; exact putSel_upk 1 hb_ rfl rfl rfl), fun h0_ => absurd ((up_self b 3).symm.trans h0_) (by decide), (by repeat (first | (with_reducible first | exact HK.out | apply KeepBut.set_ | apply keep_drewN | apply keep_drew | apply keep_alloc) | exact HK.out)), (by repeat (first | (with_reducible first | exact HB.out | apply below_alloc | apply pw_below_drewN | apply below_drew1 | refine below_set ?_ (IsS56.ge HI0.out)) | exact HB.out)), z_HO310, Q_HA_HO310, fun _ _ => (by repeat (first | (with_reducible first | exact HI0.out | apply IsS56.alloc | apply IsS56.drewN | apply IsS56.drew | apply IsS56.set_1) | exact HI0.out)), z_HO316, Q_HA_HO316, fun h0_ => absurd ((hoff 9 (by kernel_rfl)).symm.trans h0_) (by decide), fun h0_ => absurd ((hoff 4 (by kernel_rfl)).symm.trans h0_) (by decide), fun h0_ => absurd ((hoff 10 (by kernel_rfl)).symm.trans h0_) (by decide)⟩
                          refine steps_cons ?_ ?_
                          · rintro b a w' ⟨v309, adz_v309, v315, adz_v315, m4_, m10_, ha, Q_HI0, Q_HK, Q_HB, Q_HO310, Q_HA_HO310, Q_HI0_e3, Q_HO316, Q_HA_HO316, Q_HI0_e9, Q_X4_, Q_X10_⟩ hb_ hon hoff
                            refine ⟨_, rfl, fun K hK => ?_⟩
                            have e19 : a.tmps[19]? = some (v309) := by rw [ha]; exact putSel_on (e := (1, 19, v309)) 0 rfl rfl (hon 1 (by kernel_rfl)) rfl
                            have e21 : a.tmps[21]? = some (.int .i64 t311) := by rw [ha]; exact putSel_on (e := (3, 21, .int .i64 t311)) 1 rfl rfl (hon 3 (by kernel_rfl)) rfl
                            replace ha := Aside0.mk ha
                            have HK := Aside0.mk Q_HK
                            have HB := Aside0.mk Q_HB
                            have HO310 := Aside0.mk (Q_HO310 (hon 1 (by kernel_rfl)))
                            have HA_HO310 := Aside0.mk (Q_HA_HO310 (hon 1 (by kernel_rfl)))
                            obtain ⟨c_, hv_⟩ := HA_HO310.out
                            rw [hv_] at e19
                            refine value_ (w1 := w') (v := .pointer (some (adz_v309.add (t311).toNat))) (by rfl) rfl ?_ ?_
                            · go_simp
                              (try simp only [i64_w])
                              try rfl
                            refine hK.out _ _ ⟨v309, adz_v309, v315, adz_v315, (.pointer (some (adz_v309.add (t311).toNat))), m10_, (by rw [ha.out]; exact putSel_upk 2 hb_ rfl rfl rfl), fun h0_ => absurd ((hon 3 (by kernel_rfl)).symm.trans h0_) (by decide), Q_HK, Q_HB, Q_HO310, Q_HA_HO310, Q_HI0_e3, Q_HO316, Q_HA_HO316, Q_HI0_e9, fun _ => rfl, Q_X10_⟩
                          refine steps_cons ?_ ?_
                          · rintro b a w' ⟨v309, adz_v309, v315, adz_v315, m4_, m10_, ha, Q_HI0, Q_HK, Q_HB, Q_HO310, Q_HA_HO310, Q_HI0_e3, Q_HO316, Q_HA_HO316, Q_HI0_e9, Q_X4_, Q_X10_⟩ hb_ hon hoff
                            refine ⟨_, rfl, fun K hK => ?_⟩
                            have e22 : a.tmps[22]? = some (m4_) := by rw [ha]; exact putSel_on (e := (4, 22, m4_)) 2 rfl rfl (hon 4 (by kernel_rfl)) rfl
                            rw [Q_X4_ (hon 4 (by kernel_rfl))] at e22
                            replace ha := Aside0.mk ha
                            have HK := Aside0.mk Q_HK
                            have HB := Aside0.mk Q_HB
                            have HO310 := Aside0.mk (Q_HO310 (hon 1 (by kernel_rfl)))
                            have HA_HO310 := Aside0.mk (Q_HA_HO310 (hon 1 (by kernel_rfl)))
                            obtain ⟨c_, hv_⟩ := HA_HO310.out
                            have hF_ := HO310.out
                            rw [hv_] at hF_
                            obtain ⟨ad_, ea_, hx_⟩ := Kd.at_string (Kd.R_reads' hF_).2.2 t311 (of_eq_true pi313) (of_eq_true qi313)
                            cases ea_
                            refine value_ (w1 := w') (v := .string (rdOf ByteArray.empty y308 t311)) (by rfl) rfl ?_ ?_
                            · go_simp
                              (try simp only [i64_w])
                              try rfl
                            refine hK.out _ _ ⟨v309, adz_v309, v315, adz_v315, m4_, m10_, (by rw [ha.out]; exact putSel_upk 3 hb_ rfl rfl rfl), fun h0_ => absurd ((hon 3 (by kernel_rfl)).symm.trans h0_) (by decide), Q_HK, Q_HB, Q_HO310, Q_HA_HO310, Q_HI0_e3, Q_HO316, Q_HA_HO316, Q_HI0_e9, Q_X4_, Q_X10_⟩
                          refine steps_cons ?_ ?_
                          · rintro b a w' ⟨v309, adz_v309, v315, adz_v315, m4_, m10_, ha, Q_HI0, Q_HK, Q_HB, Q_HO310, Q_HA_HO310, Q_HI0_e3, Q_HO316, Q_HA_HO316, Q_HI0_e9, Q_X4_, Q_X10_⟩ hb_ hon hoff
                            refine ⟨_, rfl, fun K hK => ?_⟩
                            have e18 : a.tmps[18]? = some (.string x5_1) := by rw [ha]; exact (putSel_off rfl).trans rfl
                            have e23 : a.tmps[23]? = some (.string (rdOf ByteArray.empty y308 t311)) := by rw [ha]; exact putSel_on (e := (5, 23, .string (rdOf ByteArray.empty y308 t311))) 3 rfl rfl (hon 5 (by kernel_rfl)) rfl
                            replace ha := Aside0.mk ha
                            have HK := Aside0.mk Q_HK
                            have HB := Aside0.mk Q_HB
                            have HO310 := Aside0.mk (Q_HO310 (hon 1 (by kernel_rfl)))
                            have HA_HO310 := Aside0.mk (Q_HA_HO310 (hon 1 (by kernel_rfl)))
                            refine value_ (w1 := w') (v := .string (x5_1 ++ (rdOf ByteArray.empty y308 t311))) (by rfl) rfl ?_ ?_
                            · go_simp
                              (try simp only [i64_w])
                              try rfl
                            refine hK.out _ _ ⟨v309, adz_v309, v315, adz_v315, m4_, m10_, (by rw [ha.out]; exact putSel_upk 4 hb_ rfl rfl rfl), fun h0_ => absurd ((hon 3 (by kernel_rfl)).symm.trans h0_) (by decide), Q_HK, Q_HB, Q_HO310, Q_HA_HO310, Q_HI0_e3, Q_HO316, Q_HA_HO316, Q_HI0_e9, Q_X4_, Q_X10_⟩
                          refine steps_cons ?_ ?_
                          · rintro b a w' ⟨v309, adz_v309, v315, adz_v315, m4_, m10_, ha, Q_HI0, Q_HK, Q_HB, Q_HO310, Q_HA_HO310, Q_HI0_e3, Q_HO316, Q_HA_HO316, Q_HI0_e9, Q_X4_, Q_X10_⟩ hb_ hon hoff
                            refine ⟨_, rfl, fun K hK => ?_⟩
                            replace ha := Aside0.mk ha
                            have HK := Aside0.mk Q_HK
                            have HB := Aside0.mk Q_HB
                            refine Kd.R_lit_step Kd.string _ 9 ?hg (N := 25) ?hd (xs := ([(⟨#[97]⟩ : ByteArray), (⟨#[98]⟩ : ByteArray), (⟨#[]⟩ : ByteArray), (⟨#[99, 99]⟩ : ByteArray)] : List ByteArray)) (inner := [.string (⟨#[97]⟩ : ByteArray), .string (⟨#[98]⟩ : ByteArray), .string (⟨#[]⟩ : ByteArray), .string (⟨#[99, 99]⟩ : ByteArray)]) (ok := fun _ => True) (okp := fun _ => True) ?hr ?hp (fun _ hk => hk) trivial (Below.refl _ _) (Nat.le_refl _) (by simp) ?_; (case hd => rfl); (case hg => rfl); (case hr => first | (go_simp; done) | (go_simp; rfl)); (case hp => exact (Reps.one (show Kd.M Kd.string _ _ _ (⟨#[97]⟩ : ByteArray) [.string (⟨#[97]⟩ : ByteArray)] from rfl) (Reps.one (show Kd.M Kd.string _ _ _ (⟨#[98]⟩ : ByteArray) [.string (⟨#[98]⟩ : ByteArray)] from rfl) (Reps.one (show Kd.M Kd.string _ _ _ (⟨#[]⟩ : ByteArray) [.string (⟨#[]⟩ : ByteArray)] from rfl) (Reps.one (show Kd.M Kd.string _ _ _ (⟨#[99, 99]⟩ : ByteArray) [.string (⟨#[99, 99]⟩ : ByteArray)] from rfl) (Reps.none _ _))))))
                            intro v315 w22 ho23 hb hg_ hnew_
                            clear hg_ hnew_
                            (first | rw [← Ny314.out] at ho23 | (simp only [Int.reduceToNat] at ho23; rw [← Ny314.out] at ho23))
                            have n0_ := Aside0.mk (Kd.R_lower ho23 (keep_size (w := w) (g := g) (row := none) (by repeat (first | (with_reducible first | exact HK.out | apply KeepBut.set_ | apply keep_drewN | apply keep_drew | apply keep_alloc) | exact HK.out))))
                            have n2_ := Aside0.mk (KeepBut.trans (by repeat (first | (with_reducible first | exact HK.out | apply KeepBut.set_ | apply keep_drewN | apply keep_drew | apply keep_alloc) | exact HK.out)) (KeepBut.of_below hb g none) (.inl rfl))
                            have n3_ := Aside0.mk (below_step (by repeat (first | (with_reducible first | exact HB.out | apply below_alloc | apply pw_below_drewN | apply below_drew1) | exact HB.out)) hb)
                            have z_HI0 := fun (h0_ : b 3 = false) => (show IsS56 w0 w22 g s0_0 x1001_1 from by first | exact (IsS56.below (by repeat (first | (with_reducible first | exact (Q_HI0 h0_) | apply IsS56.alloc | apply IsS56.drewN | apply IsS56.drew | apply IsS56.set_1) | exact (Q_HI0 h0_))) hb))
                            have z_HO310 := fun (h0_ : b 1 = true) => (show Kd.R Kd.string 9 w22 w.heap.size (fun _ => True) v309 y308 from by first | exact (Kd.R_elder' (by (with_reducible repeat (first | apply Kd.R_alloc | apply Kd.R_drewN | apply Kd.R_drew)); exact (Q_HO310 h0_)) (Kd.R_base ho23) hb) | exact Kd.R_mono (Kd.R_elder' (by (with_reducible repeat (first | apply Kd.R_alloc | apply Kd.R_drewN | apply Kd.R_drew)); exact (Q_HO310 h0_)) (Kd.R_base ho23) hb) (fun _ h_ => by first | trivial | exact h_ | exact h_.1))
                            have z_HI0_e3 := fun (h0_ : b 3 = true) (h1_ : b 9 = false) => (show IsS56 w0 w22 g s0_0 t312 from by first | exact (IsS56.below (by repeat (first | (with_reducible first | exact (Q_HI0_e3 h0_ h1_) | apply IsS56.alloc | apply IsS56.drewN | apply IsS56.drew | apply IsS56.set_1) | exact (Q_HI0_e3 h0_ h1_))) hb))
                            have z_HI0_e9 := fun (h0_ : b 9 = true) => (show IsS56 w0 w22 g s0_0 t318 from by first | exact (IsS56.below (by repeat (first | (with_reducible first | exact (Q_HI0_e9 h0_) | apply IsS56.alloc | apply IsS56.drewN | apply IsS56.drew | apply IsS56.set_1) | exact (Q_HI0_e9 h0_))) hb))
                            clear HK
                            clear HB
                            have HO316 := n0_
                            have HK := n2_
                            have HB := n3_
                            clear n0_ n2_ n3_
                            clear hb ho23
                            obtain ⟨Ao24, co24, eo24⟩ := Kd.R_slice HO316.out
                            subst eo24
                            obtain ⟨ado24, fo24, _⟩ := Kd.at_string (Kd.R_reads' HO316.out).2.2 0 (by decide) (by rw [Ny314.out]; simp)
                            cases fo24
                            refine hK.out _ _ ⟨v309, adz_v309, .slice (some ado24) y314.length co24, ado24, m4_, m10_, (by rw [ha.out]; exact putSel_upk 5 hb_ rfl rfl rfl), z_HI0, (by repeat (first | (with_reducible first | exact HK.out | apply KeepBut.set_ | apply keep_drewN | apply keep_drew | apply keep_alloc) | exact HK.out)), (by repeat (first | (with_reducible first | exact HB.out | apply below_alloc | apply pw_below_drewN | apply below_drew1) | exact HB.out)), z_HO310, Q_HA_HO310, z_HI0_e3, fun _ => (by (with_reducible repeat (first | apply Kd.R_alloc | apply Kd.R_drewN | apply Kd.R_drew)); exact HO316.out), fun _ => ⟨_, rfl⟩, z_HI0_e9, Q_X4_, fun h0_ => absurd ((hoff 10 (by kernel_rfl)).symm.trans h0_) (by decide)⟩
                          refine steps_cons ?_ ?_
                          · rintro b a w' ⟨v309, adz_v309, v315, adz_v315, m4_, m10_, ha, Q_HI0, Q_HK, Q_HB, Q_HO310, Q_HA_HO310, Q_HI0_e3, Q_HO316, Q_HA_HO316, Q_HI0_e9, Q_X4_, Q_X10_⟩ hb_ hon hoff
                            refine ⟨_, rfl, fun K hK => ?_⟩
                            have e26 : a.tmps[26]? = some (.pointer (some ⟨g, 0, none⟩)) := by rw [ha]; exact (putSel_off rfl).trans rfl
                            replace ha := Aside0.mk ha
                            have HK := Aside0.mk Q_HK
                            have HB := Aside0.mk Q_HB
                            have HI0 := Aside0.mk (Q_HI0_e3 (hon 3 (by kernel_rfl)) hb_)
                            refine goes_ Tryd.func47 (by kernel_rfl) rfl #[.pointer (some ⟨g, 0, none⟩), .int .i64 4] (by rfl) rfl rfl (by first | (simp only [List.map_toArray, List.map_cons, List.map_nil, Act.eval, Array.getD_eq_getD_getElem?, Option.getD_some, e26]; done) | (simp only [List.map_toArray, List.map_cons, List.map_nil, Act.eval, Array.getD_eq_getD_getElem?, Option.getD_some, e26]; rfl)) ?_
                            with_reducible refine (spec_l20Rd_pick.calls k1 g s0_0 t312 4 t317 t318 w0 _ ?side1 ?side2 A16.out).mono ?_
                            (case side1 => repeat (first | (with_reducible first | exact HI0.out | apply IsS56.alloc | apply IsS56.drewN | apply IsS56.drew | apply IsS56.set_1) | exact HI0.out))
                            (case side2 => repeat (first | (with_reducible first | exact HB.out | apply below_alloc | apply pw_below_drewN | apply below_drew1 | refine below_set ?_ (IsS56.ge HI0.out)) | exact HB.out))
                            rintro e w24 ⟨rfl, hi, hb, hk⟩
                            refine ⟨_, rfl, ?_⟩
                            have n0_ := Aside0.mk (KeepBut.trans (by repeat (first | (with_reducible first | exact HK.out | apply KeepBut.set_ | apply keep_drewN | apply keep_drew | apply keep_alloc) | exact HK.out)) hk (.inl rfl))
                            have n1_ := Aside0.mk (hb)
                            have n2_ := Aside0.mk (hi)
                            have z_HO310 := fun (h0_ : b 1 = true) => (show Kd.R Kd.string 9 w24 w.heap.size (fun _ => True) v309 y308 from by first | exact (Kd.R_mono (Kd.R_keep (IsS56.apart (show IsS56 w0 _ g s0_0 t312 from by repeat (first | (with_reducible first | exact HI0.out | apply IsS56.alloc | apply IsS56.drewN | apply IsS56.drew | apply IsS56.set_1) | exact HI0.out)) (by (with_reducible repeat (first | apply Kd.R_alloc | apply Kd.R_drewN | apply Kd.R_drew)); exact (Q_HO310 h0_)) (by decide)) hk (fun _ h => h.2)) (fun _ h => h.1)) | exact Kd.R_mono (Kd.R_mono (Kd.R_keep (IsS56.apart (show IsS56 w0 _ g s0_0 t312 from by repeat (first | (with_reducible first | exact HI0.out | apply IsS56.alloc | apply IsS56.drewN | apply IsS56.drew | apply IsS56.set_1) | exact HI0.out)) (by (with_reducible repeat (first | apply Kd.R_alloc | apply Kd.R_drewN | apply Kd.R_drew)); exact (Q_HO310 h0_)) (by decide)) hk (fun _ h => h.2)) (fun _ h => h.1)) (fun _ h_ => by first | trivial | exact h_ | exact h_.1))
                            have z_HO316 := fun (h0_ : b 7 = true) => (show Kd.R Kd.string 9 w24 w.heap.size (fun _ => True) v315 y314 from by first | exact (Kd.R_mono (Kd.R_keep (IsS56.apart (show IsS56 w0 _ g s0_0 t312 from by repeat (first | (with_reducible first | exact HI0.out | apply IsS56.alloc | apply IsS56.drewN | apply IsS56.drew | apply IsS56.set_1) | exact HI0.out)) (by (with_reducible repeat (first | apply Kd.R_alloc | apply Kd.R_drewN | apply Kd.R_drew)); exact (Q_HO316 h0_)) (by decide)) hk (fun _ h => h.2)) (fun _ h => h.1)) | exact Kd.R_mono (Kd.R_mono (Kd.R_keep (IsS56.apart (show IsS56 w0 _ g s0_0 t312 from by repeat (first | (with_reducible first | exact HI0.out | apply IsS56.alloc | apply IsS56.drewN | apply IsS56.drew | apply IsS56.set_1) | exact HI0.out)) (by (with_reducible repeat (first | apply Kd.R_alloc | apply Kd.R_drewN | apply Kd.R_drew)); exact (Q_HO316 h0_)) (by decide)) hk (fun _ h => h.2)) (fun _ h => h.1)) (fun _ h_ => by first | trivial | exact h_ | exact h_.1))
                            clear HK
                            clear HB
                            clear HI0
                            have HK := n0_
                            have HB := n1_
                            have HI0 := n2_
                            clear n0_ n1_ n2_
                            (try clear hb)
                            (try clear hb2)
                            (try clear hk)
                            (try clear hi)
                            refine hK.out _ _ ⟨v309, adz_v309, v315, adz_v315, m4_, m10_, (by rw [ha.out]; exact putSel_upk 6 hb_ rfl rfl rfl), fun h0_ => absurd ((hon 3 (by kernel_rfl)).symm.trans h0_) (by decide), (by repeat (first | (with_reducible first | exact HK.out | apply KeepBut.set_ | apply keep_drewN | apply keep_drew | apply keep_alloc) | exact HK.out)), (by repeat (first | (with_reducible first | exact HB.out | apply below_alloc | apply pw_below_drewN | apply below_drew1 | refine below_set ?_ (IsS56.ge HI0.out)) | exact HB.out)), z_HO310, Q_HA_HO310, fun _ h1_ => absurd ((up_self b 9).symm.trans h1_) (by decide), z_HO316, Q_HA_HO316, fun _ => (by repeat (first | (with_reducible first | exact HI0.out | apply IsS56.alloc | apply IsS56.drewN | apply IsS56.drew | apply IsS56.set_1) | exact HI0.out)), Q_X4_, fun h0_ => absurd ((hoff 10 (by kernel_rfl)).symm.trans h0_) (by decide)⟩
                          refine steps_cons ?_ ?_
                          · rintro b a w' ⟨v309, adz_v309, v315, adz_v315, m4_, m10_, ha, Q_HI0, Q_HK, Q_HB, Q_HO310, Q_HA_HO310, Q_HI0_e3, Q_HO316, Q_HA_HO316, Q_HI0_e9, Q_X4_, Q_X10_⟩ hb_ hon hoff
                            refine ⟨_, rfl, fun K hK => ?_⟩
                            have e25 : a.tmps[25]? = some (v315) := by rw [ha]; exact putSel_on (e := (7, 25, v315)) 5 rfl rfl (hon 7 (by kernel_rfl)) rfl
                            have e27 : a.tmps[27]? = some (.int .i64 t317) := by rw [ha]; exact putSel_on (e := (9, 27, .int .i64 t317)) 6 rfl rfl (hon 9 (by kernel_rfl)) rfl
                            replace ha := Aside0.mk ha
                            have HK := Aside0.mk Q_HK
                            have HB := Aside0.mk Q_HB
                            have HO316 := Aside0.mk (Q_HO316 (hon 7 (by kernel_rfl)))
                            have HA_HO316 := Aside0.mk (Q_HA_HO316 (hon 7 (by kernel_rfl)))
                            have HI0 := Aside0.mk (Q_HI0_e9 (hon 9 (by kernel_rfl)))
                            obtain ⟨c_, hv_⟩ := HA_HO316.out
                            rw [hv_] at e25
                            refine value_ (w1 := w') (v := .pointer (some (adz_v315.add (t317).toNat))) (by rfl) rfl ?_ ?_
                            · go_simp
                              (try simp only [i64_w])
                              try rfl
                            refine hK.out _ _ ⟨v309, adz_v309, v315, adz_v315, m4_, (.pointer (some (adz_v315.add (t317).toNat))), (by rw [ha.out]; exact putSel_upk 7 hb_ rfl rfl rfl), fun h0_ => absurd ((hon 3 (by kernel_rfl)).symm.trans h0_) (by decide), Q_HK, Q_HB, Q_HO310, Q_HA_HO310, fun _ h1_ => absurd ((hon 9 (by kernel_rfl)).symm.trans h1_) (by decide), Q_HO316, Q_HA_HO316, Q_HI0_e9, Q_X4_, fun _ => rfl⟩
                          refine steps_cons ?_ ?_
                          · rintro b a w' ⟨v309, adz_v309, v315, adz_v315, m4_, m10_, ha, Q_HI0, Q_HK, Q_HB, Q_HO310, Q_HA_HO310, Q_HI0_e3, Q_HO316, Q_HA_HO316, Q_HI0_e9, Q_X4_, Q_X10_⟩ hb_ hon hoff
                            refine ⟨_, rfl, fun K hK => ?_⟩
                            have e28 : a.tmps[28]? = some (m10_) := by rw [ha]; exact putSel_on (e := (10, 28, m10_)) 7 rfl rfl (hon 10 (by kernel_rfl)) rfl
                            rw [Q_X10_ (hon 10 (by kernel_rfl))] at e28
                            replace ha := Aside0.mk ha
                            have HK := Aside0.mk Q_HK
                            have HB := Aside0.mk Q_HB
                            have HO316 := Aside0.mk (Q_HO316 (hon 7 (by kernel_rfl)))
                            have HA_HO316 := Aside0.mk (Q_HA_HO316 (hon 7 (by kernel_rfl)))
                            have HI0 := Aside0.mk (Q_HI0_e9 (hon 9 (by kernel_rfl)))
                            obtain ⟨c_, hv_⟩ := HA_HO316.out
                            have hF_ := HO316.out
                            rw [hv_] at hF_
                            obtain ⟨ad_, ea_, hx_⟩ := Kd.at_string (Kd.R_reads' hF_).2.2 t317 (of_eq_true pi319) (of_eq_true qi319)
                            cases ea_
                            refine value_ (w1 := w') (v := .string (rdOf ByteArray.empty y314 t317)) (by rfl) rfl ?_ ?_
                            · go_simp
                              (try simp only [i64_w])
                              try rfl
                            refine hK.out _ _ ⟨v309, adz_v309, v315, adz_v315, m4_, m10_, (by rw [ha.out]; exact putSel_upk 8 hb_ rfl rfl rfl), fun h0_ => absurd ((hon 3 (by kernel_rfl)).symm.trans h0_) (by decide), Q_HK, Q_HB, Q_HO310, Q_HA_HO310, fun _ h1_ => absurd ((hon 9 (by kernel_rfl)).symm.trans h1_) (by decide), Q_HO316, Q_HA_HO316, Q_HI0_e9, Q_X4_, Q_X10_⟩
                          refine steps_cons ?_ ?_
                          · rintro b a w' ⟨v309, adz_v309, v315, adz_v315, m4_, m10_, ha, Q_HI0, Q_HK, Q_HB, Q_HO310, Q_HA_HO310, Q_HI0_e3, Q_HO316, Q_HA_HO316, Q_HI0_e9, Q_X4_, Q_X10_⟩ hb_ hon hoff
                            refine ⟨_, rfl, fun K hK => ?_⟩
                            have e24 : a.tmps[24]? = some (.string (x5_1 ++ (rdOf ByteArray.empty y308 t311))) := by rw [ha]; exact putSel_on (e := (6, 24, .string (x5_1 ++ (rdOf ByteArray.empty y308 t311)))) 4 rfl rfl (hon 6 (by kernel_rfl)) rfl
                            have e29 : a.tmps[29]? = some (.string (rdOf ByteArray.empty y314 t317)) := by rw [ha]; exact putSel_on (e := (11, 29, .string (rdOf ByteArray.empty y314 t317))) 8 rfl rfl (hon 11 (by kernel_rfl)) rfl
                            replace ha := Aside0.mk ha
                            have HK := Aside0.mk Q_HK
                            have HB := Aside0.mk Q_HB
                            have HO310 := Aside0.mk (Q_HO310 (hon 1 (by kernel_rfl)))
                            have HA_HO310 := Aside0.mk (Q_HA_HO310 (hon 1 (by kernel_rfl)))
                            have HO316 := Aside0.mk (Q_HO316 (hon 7 (by kernel_rfl)))
                            have HA_HO316 := Aside0.mk (Q_HA_HO316 (hon 7 (by kernel_rfl)))
                            have HI0 := Aside0.mk (Q_HI0_e9 (hon 9 (by kernel_rfl)))
                            refine value_ (w1 := w') (v := .string ((x5_1 ++ (rdOf ByteArray.empty y308 t311)) ++ (rdOf ByteArray.empty y314 t317))) (by rfl) rfl ?_ ?_
                            · go_simp
                              (try simp only [i64_w])
                              try rfl
                            refine hK.out _ _ ⟨v309, adz_v309, v315, adz_v315, m4_, m10_, (by rw [ha.out]; exact putSel_upk 9 hb_ rfl rfl rfl), fun h0_ => absurd ((hon 3 (by kernel_rfl)).symm.trans h0_) (by decide), Q_HK, Q_HB, Q_HO310, Q_HA_HO310, fun _ h1_ => absurd ((hon 9 (by kernel_rfl)).symm.trans h1_) (by decide), Q_HO316, Q_HA_HO316, Q_HI0_e9, Q_X4_, Q_X10_⟩
                          refine steps_cons ?_ ?_
                          · rintro b a w' ⟨v309, adz_v309, v315, adz_v315, m4_, m10_, ha, Q_HI0, Q_HK, Q_HB, Q_HO310, Q_HA_HO310, Q_HI0_e3, Q_HO316, Q_HA_HO316, Q_HI0_e9, Q_X4_, Q_X10_⟩ hb_ hon hoff
                            refine ⟨_, rfl, fun K hK => ?_⟩
                            have e30 : a.tmps[30]? = some (.string ((x5_1 ++ (rdOf ByteArray.empty y308 t311)) ++ (rdOf ByteArray.empty y314 t317))) := by rw [ha]; exact putSel_on (e := (12, 30, .string ((x5_1 ++ (rdOf ByteArray.empty y308 t311)) ++ (rdOf ByteArray.empty y314 t317)))) 9 rfl rfl (hon 12 (by kernel_rfl)) rfl
                            replace ha := Aside0.mk ha
                            have HK := Aside0.mk Q_HK
                            have HB := Aside0.mk Q_HB
                            have HO310 := Aside0.mk (Q_HO310 (hon 1 (by kernel_rfl)))
                            have HA_HO310 := Aside0.mk (Q_HA_HO310 (hon 1 (by kernel_rfl)))
                            have HO316 := Aside0.mk (Q_HO316 (hon 7 (by kernel_rfl)))
                            have HA_HO316 := Aside0.mk (Q_HA_HO316 (hon 7 (by kernel_rfl)))
                            have HI0 := Aside0.mk (Q_HI0_e9 (hon 9 (by kernel_rfl)))
                            refine value_ (w1 := w') (v := .string (((x5_1 ++ (rdOf ByteArray.empty y308 t311)) ++ (rdOf ByteArray.empty y314 t317)) ++ (⟨#[10]⟩ : ByteArray))) (by rfl) rfl ?_ ?_
                            · go_simp
                              (try simp only [i64_w])
                              try rfl
                            refine hK.out _ _ ⟨v309, adz_v309, v315, adz_v315, m4_, m10_, (by rw [ha.out]; exact putSel_upk 10 hb_ rfl rfl rfl), fun h0_ => absurd ((hon 3 (by kernel_rfl)).symm.trans h0_) (by decide), Q_HK, Q_HB, Q_HO310, Q_HA_HO310, fun _ h1_ => absurd ((hon 9 (by kernel_rfl)).symm.trans h1_) (by decide), Q_HO316, Q_HA_HO316, Q_HI0_e9, Q_X4_, Q_X10_⟩
                          refine steps_cons ?_ ?_
                          · rintro b a w' ⟨v309, adz_v309, v315, adz_v315, m4_, m10_, ha, Q_HI0, Q_HK, Q_HB, Q_HO310, Q_HA_HO310, Q_HI0_e3, Q_HO316, Q_HA_HO316, Q_HI0_e9, Q_X4_, Q_X10_⟩ hb_ hon hoff
                            refine ⟨_, rfl, fun K hK => ?_⟩
                            have e31 : a.tmps[31]? = some (.string (((x5_1 ++ (rdOf ByteArray.empty y308 t311)) ++ (rdOf ByteArray.empty y314 t317)) ++ (⟨#[10]⟩ : ByteArray))) := by rw [ha]; exact putSel_on (e := (13, 31, .string (((x5_1 ++ (rdOf ByteArray.empty y308 t311)) ++ (rdOf ByteArray.empty y314 t317)) ++ (⟨#[10]⟩ : ByteArray)))) 10 rfl rfl (hon 13 (by kernel_rfl)) rfl
                            replace ha := Aside0.mk ha
                            have HK := Aside0.mk Q_HK
                            have HB := Aside0.mk Q_HB
                            have HO310 := Aside0.mk (Q_HO310 (hon 1 (by kernel_rfl)))
                            have HA_HO310 := Aside0.mk (Q_HA_HO310 (hon 1 (by kernel_rfl)))
                            have HO316 := Aside0.mk (Q_HO316 (hon 7 (by kernel_rfl)))
                            have HA_HO316 := Aside0.mk (Q_HA_HO316 (hon 7 (by kernel_rfl)))
                            have HI0 := Aside0.mk (Q_HI0_e9 (hon 9 (by kernel_rfl)))
                            refine value_ (w1 := w') (v := .string (((x5_1 ++ (rdOf ByteArray.empty y308 t311)) ++ (rdOf ByteArray.empty y314 t317)) ++ (⟨#[10]⟩ : ByteArray))) (by rfl) rfl ?_ ?_
                            · go_simp
                              (try simp only [i64_w])
                              try rfl
                            refine hK.out _ _ ⟨v309, adz_v309, v315, adz_v315, m4_, m10_, (by rw [ha.out]; exact putSel_upk 11 hb_ rfl rfl rfl), fun h0_ => absurd ((hon 3 (by kernel_rfl)).symm.trans h0_) (by decide), Q_HK, Q_HB, Q_HO310, Q_HA_HO310, fun _ h1_ => absurd ((hon 9 (by kernel_rfl)).symm.trans h1_) (by decide), Q_HO316, Q_HA_HO316, Q_HI0_e9, Q_X4_, Q_X10_⟩
                          exact steps_nil
                        rintro b a w30 hall ⟨v309, adz_v309, v315, adz_v315, m4_, m10_, ha, Q_HI0, Q_HK, Q_HB, Q_HO310, Q_HA_HO310, Q_HI0_e3, Q_HO316, Q_HA_HO316, Q_HI0_e9, Q_X4_, Q_X10_⟩
                        clear HB HI0 HK
                        have hb1_ := hall 1 (by kernel_rfl)
                        have hb3_ := hall 3 (by kernel_rfl)
                        have hb4_ := hall 4 (by kernel_rfl)
                        have hb5_ := hall 5 (by kernel_rfl)
                        have hb6_ := hall 6 (by kernel_rfl)
                        have hb7_ := hall 7 (by kernel_rfl)
                        have hb9_ := hall 9 (by kernel_rfl)
                        have hb10_ := hall 10 (by kernel_rfl)
                        have hb11_ := hall 11 (by kernel_rfl)
                        have hb12_ := hall 12 (by kernel_rfl)
                        have hb13_ := hall 13 (by kernel_rfl)
                        have hb14_ := hall 14 (by kernel_rfl)
                        subst ha
                        obtain rfl := Q_X4_ hb4_
                        obtain rfl := Q_X10_ hb10_
                        simp only [putSel, hb1_, hb3_, hb4_, hb5_, hb6_, hb7_, hb9_, hb10_, hb11_, hb12_, hb13_, hb14_, if_true, Act.put, List.setIfInBounds_toArray, List.set_cons_zero, List.set_cons_succ]
                        clear Q_HI0
                        have HK := Aside0.mk Q_HK
                        clear Q_HK
                        have HB := Aside0.mk Q_HB
                        clear Q_HB
                        have HO310 := Aside0.mk (Q_HO310 hb1_)
                        clear Q_HO310
                        have HA_HO310 := Aside0.mk (Q_HA_HO310 hb1_)
                        clear Q_HA_HO310
                        clear Q_HI0_e3
                        have HO316 := Aside0.mk (Q_HO316 hb7_)
                        clear Q_HO316
                        have HA_HO316 := Aside0.mk (Q_HA_HO316 hb7_)
                        clear Q_HA_HO316
                        have HI0 := Aside0.mk (Q_HI0_e9 hb9_)
                        clear Q_HI0_e9
                        clear hall hb1_ hb3_ hb4_ hb5_ hb6_ hb7_ hb9_ hb10_ hb11_ hb12_ hb13_ hb14_
                        obtain ⟨co31, eo31⟩ := HA_HO310.out
                        clear HA_HO310
                        subst eo31
                        obtain ⟨co32, eo32⟩ := HA_HO316.out
                        clear HA_HO316
                        subst eo32
                        try go_wp2
                        go_roundg k1
                        case measure => have := HK1.out; omega
                        case rel => exact ⟨(((x5_1 ++ (rdOf ByteArray.empty y308 t311)) ++ (rdOf ByteArray.empty y314 t317)) ++ (⟨#[10]⟩ : ByteArray)), (wrap64 (x6_1 - 1)), (t318), (by first | rfl | (simp; done) | (simp [*]; done)), (by first | rfl | (simp; done) | (simp [*]; done)), H', ⟨by have := HK1.out; omega⟩, ⟨by repeat (first | (with_reducible first | exact HI0.out | apply IsS56.alloc | apply IsS56.drewN | apply IsS56.drew | apply IsS56.set_1) | exact HI0.out)⟩, ⟨by repeat (first | (with_reducible first | exact HK.out | apply KeepBut.set_ | apply keep_drewN | apply keep_drew | apply keep_alloc) | exact HK.out)⟩, ⟨by repeat (first | (with_reducible first | exact HB.out | apply below_alloc | apply pw_below_drewN | apply below_drew1 | refine below_set ?_ (IsS56.ge HI0.out)) | exact HB.out)⟩⟩
                      · rw [if_neg c20] at H
                        exact absurd H (by simp)
                    · rw [if_neg c19] at H
                      exact absurd H (by simp)
                  · rw [if_neg c18] at H
                    exact absurd H (by simp)
                · rw [if_neg c17] at H
                  exact absurd H (by simp)
              · rw [if_neg c15] at H
                exact absurd H (by simp)
            · rw [if_neg c14] at H
              exact absurd H (by simp)
          · rw [if_neg c13] at H
            exact absurd H (by simp)
        · rw [if_neg c11] at H
          have c11b0 : decide (0 < x6_1) = false := decide_eq_false c11
          clear c11
          simp only [Option.some.injEq, Prod.mk.injEq] at H
          obtain ⟨rfl, rfl⟩ := H
          go_wp2
          go_ret
          exact ⟨by first | rfl | (simp [errW_none, errW_some] <;> rfl) | (simp [*, errW_none, errW_some] <;> rfl), by repeat (first | (with_reducible first | exact HI0.out | apply IsS56.alloc | apply IsS56.drewN | apply IsS56.drew | apply IsS56.set_1) | exact HI0.out), by repeat (first | (with_reducible first | exact HB.out | apply below_alloc | apply pw_below_drewN | apply below_drew1 | refine below_set ?_ (IsS56.ge HI0.out)) | exact HB.out), by repeat (first | (with_reducible first | exact HK.out | apply KeepBut.set_ | apply keep_drewN | apply keep_drew | apply keep_alloc) | exact HK.out)⟩

end Go.Proofs.YtdpnfdoplahfgaaDoor.X
