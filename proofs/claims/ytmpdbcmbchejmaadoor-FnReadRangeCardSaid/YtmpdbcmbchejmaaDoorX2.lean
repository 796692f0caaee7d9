-- written by a program of this session (wip/xprint.py) out of the translation
import Derived.Test.YtmpdbcmbchejmaaDoorX0
import Derived.Test.YtmpdbcmbchejmaaDoorX1
import Derived.Test.YtmpdbcmbchejmaaDoorLibT
import Derived.Test.YtmpdbcmbchejmaaDoorLibA
namespace Go.Proofs.YtmpdbcmbchejmaaDoor.X
open Go.RowKit Go.Proofs.YtmpdbcmbchejmaaDoorW.PrintWords Go.Proofs.YtmpdbcmbchejmaaDoorW.PrintLast Go.Proofs.YtmpdbcmbchejmaaDoorW.PrintMore
attribute [local go_sem] max2_int min2_int max_two min_two max_three min_three max_four min_four   -- for this text's walks alone
set_option linter.unusedVariables false
set_option linter.unusedSimpArgs false

/-! ### spec_l20Open: function 11 -/
def spec_l20Open.f (l0 : List Int) : Option (List Int × Int) := if (l0.length : Int) > 2000 then (if 2000 ≤ (l0.length : Int) then (some (l0.take 2000, 0)) else (none)) else (some (l0, 0))
set_option maxHeartbeats 8000000 in
set_option maxRecDepth 100000 in
theorem spec_l20Open.calls (A0 : Option Addr) (c0 : Nat) (l0 : List Int) (r1 : List Int) (r2 : Int) (w0 w : World) (hB : Below w0.heap.size w0 w) (hr0 : Kd.C (Kd.int .u8) w0 A0 l0.length l0) (hc0 : l0.length ≤ c0) (h : spec_l20Open.f l0 = some (r1, r2)) :
    Calls Tryd.prog 11 #[.slice A0 l0.length c0] w fun e w' => ∃ g_ : Nat, e = .returned (.pointer (some ⟨g_, 0, none⟩)) ∧ IsS45 w0 w' g_ r1 r2 ∧ Below w0.heap.size w0 w' ∧ Below w.heap.size w w' := by
  have hu45 := Tryd.underlying45
  have HR0 := Aside0.mk hr0
  have HC0 := Aside0.mk hc0
  clear hr0 hc0
  have HBW := Aside0.mk (Below.refl w.heap.size w)
  have HW0 := Aside0.mk hB.size
  have HB := Aside0.mk hB
  clear hB
  have H : (if (l0.length : Int) > 2000 then (if 2000 ≤ (l0.length : Int) then (some (l0.take 2000, 0)) else (none)) else (some (l0, 0))) = some (r1, r2) := h
  clear h
  by_cases c2 : (l0.length : Int) > 2000
  · rw [if_pos c2] at H
    have c2b0 : decide (2000 < (l0.length : Int)) = true := decide_eq_true c2
    have c2b1 : decide (2000 < l0.length) = true := decide_eq_true (by omega)
    clear c2
    by_cases c3 : 2000 ≤ (l0.length : Int)
    · rw [if_pos c3] at H
      have c3b0 := eq_true c3
      have c3b1 : decide (2000 ≤ (l0.length : Int)) = true := decide_eq_true c3
      clear c3
      simp only [Option.some.injEq, Prod.mk.injEq] at H
      obtain ⟨rfl, rfl⟩ := H
      obtain ⟨i04, hi04, _, hsz4, _⟩ := info_parts info5
      obtain ⟨hcut4, hA4, hC4⟩ := print_take_of (P := Tryd.prog) (Value.int .u8) 0 22 5 .i64 Tryd.underlying22 hi04 hsz4 A0 c0 l0 2000 (by omega) (of_decide_eq_true (by first | (with_reducible assumption) | assumption)) HC0.out
      have HR101 := Aside0.mk (Kd.C_of_reads (h1 := fun _ => rfl) (hA4 _ (Kd.reads_of_C HR0.out)))
      have HC101 := Aside0.mk hC4
      clear hA4 hC4 hi04 hsz4
      go_enter Tryd.func11, Tryd.ntmps11
      go_wp2_with (first | ((with_reducible refine gate_dst (N := 10) rfl ?_); refine box_event ?hg (N := 10) ?hd (cs := #[.slice A0 (l0.take 2000).length c0, .int .i64 0]) (t := 45) ?hr ?_; (case hd => rfl); (case hg => rfl); (case hr => first | (go_simp; done) | (go_simp; rfl) | (simp only [i64_w]; first | (go_simp; done) | (go_simp; rfl))); intro gb102 hg w5 hbox hb; have n0_ := Aside0.mk (below_step HBW.out hb); have n1_ := Aside0.mk (below_step (by repeat (first | (with_reducible first | exact HB.out | apply below_alloc | apply pw_below_drewN | apply below_drew1) | exact HB.out)) hb); have n2_ := Aside0.mk (hbox); have n3_ := Aside0.mk ((by rw [hg]; exact (below_size (by repeat (first | (with_reducible first | exact HBW.out | apply below_alloc | apply pw_below_drewN | apply below_drew1) | exact HBW.out))) : w.heap.size ≤ gb102)); have n4_ := Aside0.mk ((Nat.le_trans HW0.out (by rw [hg]; exact (below_size (by repeat (first | (with_reducible first | exact HBW.out | apply below_alloc | apply pw_below_drewN | apply below_drew1) | exact HBW.out))) : w.heap.size ≤ gb102) : w0.heap.size ≤ gb102)); clear HBW; clear HB; have HBW := n0_; have HB := n1_; have BK102 := n2_; have GW102 := n3_; have GE102 := n4_; clear n0_ n1_ n2_ n3_ n4_; clear hb hbox hg))
      go_ret
      exact ⟨_, rfl, (show IsS45 w0 _ gb102 (l0.take 2000) 0 from ⟨_, _, by (with_reducible repeat (first | refine blk_drewN ?_ _ | refine blk_drew ?_ | refine blk_alloc ?_ _)); exact BK102.out, GE102.out, HR101.out⟩), by repeat (first | (with_reducible first | exact HB.out | apply below_alloc | apply pw_below_drewN | apply below_drew1 | refine below_set ?_ GE102.out) | exact HB.out), by repeat (first | (with_reducible first | exact HBW.out | apply below_alloc | apply pw_below_drewN | apply below_drew1 | refine below_set ?_ GW102.out) | exact HBW.out)⟩
    · rw [if_neg c3] at H
      exact absurd H (by simp)
  · rw [if_neg c2] at H
    have c2b0 : decide (2000 < (l0.length : Int)) = false := decide_eq_false c2
    have c2b1 : decide (2000 < l0.length) = false := decide_eq_false (by omega)
    clear c2
    simp only [Option.some.injEq, Prod.mk.injEq] at H
    obtain ⟨rfl, rfl⟩ := H
    go_enter Tryd.func11, Tryd.ntmps11
    go_wp2_with (first | ((with_reducible refine gate_dst (N := 10) rfl ?_); refine box_event ?hg (N := 10) ?hd (cs := #[.slice A0 l0.length c0, .int .i64 0]) (t := 45) ?hr ?_; (case hd => rfl); (case hg => rfl); (case hr => first | (go_simp; done) | (go_simp; rfl) | (simp only [i64_w]; first | (go_simp; done) | (go_simp; rfl))); intro gb103 hg w6 hbox hb; have n0_ := Aside0.mk (below_step HBW.out hb); have n1_ := Aside0.mk (below_step (by repeat (first | (with_reducible first | exact HB.out | apply below_alloc | apply pw_below_drewN | apply below_drew1) | exact HB.out)) hb); have n2_ := Aside0.mk (hbox); have n3_ := Aside0.mk ((by rw [hg]; exact (below_size (by repeat (first | (with_reducible first | exact HBW.out | apply below_alloc | apply pw_below_drewN | apply below_drew1) | exact HBW.out))) : w.heap.size ≤ gb103)); have n4_ := Aside0.mk ((Nat.le_trans HW0.out (by rw [hg]; exact (below_size (by repeat (first | (with_reducible first | exact HBW.out | apply below_alloc | apply pw_below_drewN | apply below_drew1) | exact HBW.out))) : w.heap.size ≤ gb103) : w0.heap.size ≤ gb103)); clear HBW; clear HB; have HBW := n0_; have HB := n1_; have BK103 := n2_; have GW103 := n3_; have GE103 := n4_; clear n0_ n1_ n2_ n3_ n4_; clear hb hbox hg))
    go_ret
    exact ⟨_, rfl, (show IsS45 w0 _ gb103 l0 0 from ⟨_, _, by (with_reducible repeat (first | refine blk_drewN ?_ _ | refine blk_drew ?_ | refine blk_alloc ?_ _)); exact BK103.out, GE103.out, HR0.out⟩), by repeat (first | (with_reducible first | exact HB.out | apply below_alloc | apply pw_below_drewN | apply below_drew1 | refine below_set ?_ GE103.out) | exact HB.out), by repeat (first | (with_reducible first | exact HBW.out | apply below_alloc | apply pw_below_drewN | apply below_drew1 | refine below_set ?_ GW103.out) | exact HBW.out)⟩

/-! ### spec_l20Rd_pick: function 13 -/
def spec_l20Rd_pick.j0 : Nat → Int → Bool → List Int → Int → Option (Int × Int)
  | 0, _, _, _, _ => none
  | k + 1, x1, x24, x1000, x1001 => if x24 = true then (some (0, x1001)) else (if (wrap64 (x1001 - 1)) < (x1000.length : Int) then (if 0 ≤ (wrap64 (x1001 - 1)) then (if x1 = 0 then (none) else (some (Int.tmod (wrap64 (rd x1000 (wrap64 (x1001 - 1)))) x1, x1001))) else (none)) else (if (x1000.length : Int) = 0 then (none) else (if 0 ≤ (Int.tmod (wrap64 (x1001 - 1)) (x1000.length : Int)) then (if (Int.tmod (wrap64 (x1001 - 1)) (x1000.length : Int)) < (x1000.length : Int) then (if 0 ≤ (Int.tmod (wrap64 ((wrap64 ((wrap64 (x1001 - 1)) * 7)) + 3)) (x1000.length : Int)) then (if (Int.tmod (wrap64 ((wrap64 ((wrap64 (x1001 - 1)) * 7)) + 3)) (x1000.length : Int)) < (x1000.length : Int) then (if x1 = 0 then (none) else (some (Int.tmod (Go.bits .xor .i64 (wrap64 ((wrap64 ((wrap64 ((wrap64 ((wrap64 (rd x1000 (Int.tmod (wrap64 (x1001 - 1)) (x1000.length : Int)))) * 131)) + (wrap64 ((wrap64 (rd x1000 (Int.tmod (wrap64 ((wrap64 ((wrap64 (x1001 - 1)) * 7)) + 3)) (x1000.length : Int)))) * 1117)))) + (wrap64 ((wrap64 (x1001 - 1)) * 29)))) + (wrap64 ((wrap64 (Int.tdiv (wrap64 (x1001 - 1)) (x1000.length : Int))) * 53)))) (wrap64 (Int.tdiv (wrap64 ((wrap64 ((wrap64 ((wrap64 ((wrap64 (rd x1000 (Int.tmod (wrap64 (x1001 - 1)) (x1000.length : Int)))) * 131)) + (wrap64 ((wrap64 (rd x1000 (Int.tmod (wrap64 ((wrap64 ((wrap64 (x1001 - 1)) * 7)) + 3)) (x1000.length : Int)))) * 1117)))) + (wrap64 ((wrap64 (x1001 - 1)) * 29)))) + (wrap64 ((wrap64 (Int.tdiv (wrap64 (x1001 - 1)) (x1000.length : Int))) * 53)))) 64))) x1, x1001))) else (none)) else (none)) else (none)) else (none))))
def spec_l20Rd_pick.f (k : Nat) (s0_0 : List Int) (s0_1 : Int) (a1 : Int) : Option (Int × Int) := if a1 < 1 then (spec_l20Rd_pick.j0 k a1 true s0_0 (wrap64 (s0_1 + 1))) else (spec_l20Rd_pick.j0 k a1 ((s0_0.length : Int) == 0) s0_0 (wrap64 (s0_1 + 1)))
theorem spec_l20Rd_pick.mono_l : ∀ k, (∀ y0 y1 y2 y3, LeO (spec_l20Rd_pick.j0 k y0 y1 y2 y3) (spec_l20Rd_pick.j0 (k + 1) y0 y1 y2 y3))
  | 0 => fun _ _ _ _ r h => by simp [spec_l20Rd_pick.j0] at h
  | k + 1 => by
    have ih0 := spec_l20Rd_pick.mono_l k
    · intro y0 y1 y2 y3
      unfold spec_l20Rd_pick.j0
      repeat' first
      | (with_reducible exact ih0 _ _ _ _)
      | (with_reducible exact LeO.refl _)
      | (with_reducible exact LeO.none _)
      | (with_reducible refine LeO.ite ?_ ?_)
      | (with_reducible refine LeO.bind ?_ (fun _ => ?_))
      | exact ih0 _ _ _ _
      | exact LeO.none _
      | refine LeO.ite ?_ ?_
      | refine LeO.bind ?_ (fun _ => ?_)
theorem spec_l20Rd_pick.mono : ∀ a0 a1 a2 k, LeO (spec_l20Rd_pick.f k a0 a1 a2) (spec_l20Rd_pick.f (k + 1) a0 a1 a2) := by
  intro a0 a1 a2 k
  have ih0 := spec_l20Rd_pick.mono_l k
  unfold spec_l20Rd_pick.f
  repeat' first
      | (with_reducible exact ih0 _ _ _ _)
      | (with_reducible exact LeO.refl _)
      | (with_reducible exact LeO.none _)
      | (with_reducible refine LeO.ite ?_ ?_)
      | (with_reducible refine LeO.bind ?_ (fun _ => ?_))
      | exact ih0 _ _ _ _
      | exact LeO.none _
      | refine LeO.ite ?_ ?_
      | refine LeO.bind ?_ (fun _ => ?_)
set_option maxHeartbeats 8000000 in
set_option maxRecDepth 100000 in
theorem spec_l20Rd_pick.calls (k : Nat) (g : Nat) (s0_0 : List Int) (s0_1 : Int) (a1 : Int) (r1 : Int) (r2 : Int) (w0 w : World) (hI : IsS45 w0 w g s0_0 s0_1) (hB : Below w0.heap.size w0 w) (h : spec_l20Rd_pick.f k s0_0 s0_1 a1 = some (r1, r2)) :
    Calls Tryd.prog 13 #[.pointer (some ⟨g, 0, none⟩), .int .i64 a1] w fun e w' => e = .returned (.int .i64 r1) ∧ IsS45 w0 w' g s0_0 r2 ∧ Below w0.heap.size w0 w' ∧ KeepBut w w' g none := by
  have HI0 := Aside0.mk hI
  have HK := Aside0.mk (KeepBut.refl w g none)
  have HL := Aside0.mk hB.size
  clear hI
  have HW0 := Aside0.mk hB.size
  have HB := Aside0.mk hB
  clear hB
  have H : (if a1 < 1 then (spec_l20Rd_pick.j0 k a1 true s0_0 (wrap64 (s0_1 + 1))) else (spec_l20Rd_pick.j0 k a1 ((s0_0.length : Int) == 0) s0_0 (wrap64 (s0_1 + 1)))) = some (r1, r2) := h
  clear h
  have HC3 := Aside0.mk H
  clear H
  obtain ⟨ASz4_0, cSz4_0, HGz4, hgz4, HSz4_0⟩ := HI0.out
  have hcz4_0 := cellS45_0 HGz4
  have hcz4_1 := cellS45_1 HGz4
  have hfz4_1 := blk_frozen HGz4 1
  clear HGz4 hgz4
  go_enter Tryd.func13, Tryd.ntmps13
  go_upto_region 2 with (fail)
  repeat (go_quiet (fail); go_upto_region 2 with (fail))
  go_cut [24] (fun v24 wc => ∃ (kq : Nat) (x24_2 : Bool), v24 = .bool x24_2 ∧ Aside0 (spec_l20Rd_pick.j0 kq a1 x24_2 s0_0 (wrap64 (s0_1 + 1)) = some (r1, r2)) ∧ Aside0 (kq ≤ k) ∧ Aside0 (IsS45 w0 wc g s0_0 (wrap64 (s0_1 + 1))) ∧ Aside0 (KeepBut w wc g none) ∧ Aside0 (Below w0.heap.size w0 wc))
  case first =>
    have H := HC3.out
    clear HC3
    by_cases c5 : a1 < 1
    · rw [if_pos c5] at H
      have c5b0 : decide (a1 < 1) = true := decide_eq_true c5
      clear c5
      (first | rw [c5b0] | (simp only [i64_w, i32_w]; rw [c5b0]) | skip)
      have H' := Aside0.mk H
      clear H
      go_wp2
      repeat (go_quiet (fail); try go_wp2)
      go_meet
      case rel => exact ⟨_, (true), (by first | rfl | (simp; done) | (simp [*]; done)), H', ⟨by first | omega | exact Nat.le_refl _⟩, ⟨by repeat (first | (with_reducible first | exact HI0.out | apply IsS45.alloc | apply IsS45.drewN | apply IsS45.drew | apply IsS45.set_1) | exact HI0.out)⟩, ⟨by repeat (first | (with_reducible first | exact HK.out | apply KeepBut.set_ | apply keep_drewN | apply keep_drew | apply keep_alloc) | exact HK.out)⟩, ⟨by repeat (first | (with_reducible first | exact HB.out | apply below_alloc | apply pw_below_drewN | apply below_drew1 | refine below_set ?_ (IsS45.ge HI0.out)) | exact HB.out)⟩⟩
    · rw [if_neg c5] at H
      have c5b0 : decide (a1 < 1) = false := decide_eq_false c5
      clear c5
      (first | rw [c5b0] | (simp only [i64_w, i32_w]; rw [c5b0]) | skip)
      have H' := Aside0.mk H
      clear H
      obtain ⟨ASz6_0, cSz6_0, HGz6, hgz6, HSz6_0⟩ := HI0.out
      have hcz6_0 := cellS45_0 HGz6
      have hcz6_1 := cellS45_1 HGz6
      have hfz6_1 := blk_frozen HGz6 1
      clear HGz6 hgz6
      go_wp2
      repeat (go_quiet (fail); try go_wp2)
      go_meet
      case rel => exact ⟨_, (((s0_0.length : Int) == 0)), (by first | rfl | (simp; done) | (simp [*]; done)), H', ⟨by first | omega | exact Nat.le_refl _⟩, ⟨by repeat (first | (with_reducible first | exact HI0.out | apply IsS45.alloc | apply IsS45.drewN | apply IsS45.drew | apply IsS45.set_1) | exact HI0.out)⟩, ⟨by repeat (first | (with_reducible first | exact HK.out | apply KeepBut.set_ | apply keep_drewN | apply keep_drew | apply keep_alloc) | exact HK.out)⟩, ⟨by repeat (first | (with_reducible first | exact HB.out | apply below_alloc | apply pw_below_drewN | apply below_drew1 | refine below_set ?_ (IsS45.ge HI0.out)) | exact HB.out)⟩⟩
  case rest =>
    clear HC3
    try clear c1
    try clear p2
    try clear c5
    try clear c5b0
    try clear p6
    try clear hcz4_0
    try clear hcz4_1
    try clear hcz6_0
    try clear hcz6_1
    try clear hfz4_1
    try clear hfz6_1
    obtain ⟨kq, x24_2, rfl, HA, HJ2, HI0, HK, HB⟩ := hcut
    cases kq with
    | zero => exact absurd HA.out (by simp [spec_l20Rd_pick.j0])
    | succ kj2 =>
      have H := HA.out
      clear HA
      simp only [spec_l20Rd_pick.j0] at H
      by_cases c7 : x24_2 = true
      · subst c7
        have H1 : (some (0, (wrap64 (s0_1 + 1)))) = some (r1, r2) := by rw [if_pos rfl] at H; exact H
        clear H
        have H := H1
        clear H1
        simp only [Option.some.injEq, Prod.mk.injEq] at H
        obtain ⟨rfl, rfl⟩ := H
        go_wp2
        repeat (go_quiet (fail); try go_wp2)
        go_ret
        exact ⟨by first | rfl | (simp [errW_none, errW_some] <;> rfl) | (simp [*, errW_none, errW_some] <;> rfl), by repeat (first | (with_reducible first | exact HI0.out | apply IsS45.alloc | apply IsS45.drewN | apply IsS45.drew | apply IsS45.set_1) | exact HI0.out), by repeat (first | (with_reducible first | exact HB.out | apply below_alloc | apply pw_below_drewN | apply below_drew1 | refine below_set ?_ (IsS45.ge HI0.out)) | exact HB.out), by repeat (first | (with_reducible first | exact HK.out | apply KeepBut.set_ | apply keep_drewN | apply keep_drew | apply keep_alloc) | exact HK.out)⟩
      · replace c7 := Bool.eq_false_iff.mpr c7
        subst c7
        have H1 : (if (wrap64 ((wrap64 (s0_1 + 1)) - 1)) < (s0_0.length : Int) then (if 0 ≤ (wrap64 ((wrap64 (s0_1 + 1)) - 1)) then (if a1 = 0 then (none) else (some (Int.tmod (wrap64 (rd s0_0 (wrap64 ((wrap64 (s0_1 + 1)) - 1)))) a1, (wrap64 (s0_1 + 1))))) else (none)) else (if (s0_0.length : Int) = 0 then (none) else (if 0 ≤ (Int.tmod (wrap64 ((wrap64 (s0_1 + 1)) - 1)) (s0_0.length : Int)) then (if (Int.tmod (wrap64 ((wrap64 (s0_1 + 1)) - 1)) (s0_0.length : Int)) < (s0_0.length : Int) then (if 0 ≤ (Int.tmod (wrap64 ((wrap64 ((wrap64 ((wrap64 (s0_1 + 1)) - 1)) * 7)) + 3)) (s0_0.length : Int)) then (if (Int.tmod (wrap64 ((wrap64 ((wrap64 ((wrap64 (s0_1 + 1)) - 1)) * 7)) + 3)) (s0_0.length : Int)) < (s0_0.length : Int) then (if a1 = 0 then (none) else (some (Int.tmod (Go.bits .xor .i64 (wrap64 ((wrap64 ((wrap64 ((wrap64 ((wrap64 (rd s0_0 (Int.tmod (wrap64 ((wrap64 (s0_1 + 1)) - 1)) (s0_0.length : Int)))) * 131)) + (wrap64 ((wrap64 (rd s0_0 (Int.tmod (wrap64 ((wrap64 ((wrap64 ((wrap64 (s0_1 + 1)) - 1)) * 7)) + 3)) (s0_0.length : Int)))) * 1117)))) + (wrap64 ((wrap64 ((wrap64 (s0_1 + 1)) - 1)) * 29)))) + (wrap64 ((wrap64 (Int.tdiv (wrap64 ((wrap64 (s0_1 + 1)) - 1)) (s0_0.length : Int))) * 53)))) (wrap64 (Int.tdiv (wrap64 ((wrap64 ((wrap64 ((wrap64 ((wrap64 (rd s0_0 (Int.tmod (wrap64 ((wrap64 (s0_1 + 1)) - 1)) (s0_0.length : Int)))) * 131)) + (wrap64 ((wrap64 (rd s0_0 (Int.tmod (wrap64 ((wrap64 ((wrap64 ((wrap64 (s0_1 + 1)) - 1)) * 7)) + 3)) (s0_0.length : Int)))) * 1117)))) + (wrap64 ((wrap64 ((wrap64 (s0_1 + 1)) - 1)) * 29)))) + (wrap64 ((wrap64 (Int.tdiv (wrap64 ((wrap64 (s0_1 + 1)) - 1)) (s0_0.length : Int))) * 53)))) 64))) a1, (wrap64 (s0_1 + 1))))) else (none)) else (none)) else (none)) else (none)))) = some (r1, r2) := by rw [if_neg (show ¬ (false = true) by decide)] at H; exact H
        clear H
        have H := H1
        clear H1
        by_cases c8 : (wrap64 ((wrap64 (s0_1 + 1)) - 1)) < (s0_0.length : Int)
        · rw [if_pos c8] at H
          have c8b0 : decide ((wrap64 ((wrap64 (s0_1 + 1)) - 1)) < (s0_0.length : Int)) = true := decide_eq_true c8
          clear c8
          obtain ⟨ji9, hji9⟩ : ∃ j_ : Int, (wrap64 ((wrap64 (s0_1 + 1)) - 1)) = j_ := ⟨_, rfl⟩
          replace H : (if 0 ≤ (ji9) then (if a1 = 0 then (none) else (some (Int.tmod (wrap64 (rd s0_0 (ji9))) a1, (wrap64 (s0_1 + 1))))) else (none)) = some (r1, r2) := by first | (rw [hji9] at H; exact H) | (simp only [hji9] at H ⊢; exact H)
          (try rw [hji9] at c8b0)
          have hji9w : (IntKind.i64.wrap ((wrap64 (s0_1 + 1)) - 1)) = ji9 := (i64_w _).trans hji9
          by_cases c10 : 0 ≤ (ji9)
          · rw [if_pos c10] at H
            have c10b0 : decide (0 ≤ (ji9)) = true := decide_eq_true c10
            clear c10
            by_cases c11 : a1 = 0
            · rw [if_pos c11] at H
              exact absurd H (by simp)
            · rw [if_neg c11] at H
              have c11b0 : (a1 == 0) = false := beq_eq_false_iff_ne.mpr c11
              have c11b1 : (a1 != 0) = true := bne_iff_ne.mpr c11
              simp only [Option.some.injEq, Prod.mk.injEq] at H
              obtain ⟨rfl, rfl⟩ := H
              obtain ⟨ASz12_0, cSz12_0, HGz12, hgz12, HSz12_0⟩ := HI0.out
              have hcz12_0 := cellS45_0 HGz12
              have hcz12_1 := cellS45_1 HGz12
              have hfz12_1 := blk_frozen HGz12 1
              clear HGz12 hgz12
              have p104 : 0 ≤ ((ji9) : Int) := of_decide_eq_true (by first | (with_reducible assumption) | assumption)
              have q104 : (ji9) < (s0_0.length : Int) := of_decide_eq_true (by first | (with_reducible assumption) | assumption)
              obtain ⟨ad104, e104, hx104_0⟩ := Kd.at_int HSz12_0 (ji9) p104 q104
              cases e104
              replace hx104_0 := pw_cell_below HB.out hx104_0
              replace p104 := eq_true p104
              replace q104 := eq_true q104
              go_wp2
              repeat (go_quiet (fail); try go_wp2)
              go_ret
              exact ⟨by first | rfl | (simp [errW_none, errW_some] <;> rfl) | (simp only [← hji9]; first | rfl | (simp [errW_none, errW_some] <;> rfl)) | (simp [*, errW_none, errW_some] <;> rfl), by repeat (first | (with_reducible first | exact HI0.out | apply IsS45.alloc | apply IsS45.drewN | apply IsS45.drew | apply IsS45.set_1) | exact HI0.out), by repeat (first | (with_reducible first | exact HB.out | apply below_alloc | apply pw_below_drewN | apply below_drew1 | refine below_set ?_ (IsS45.ge HI0.out)) | exact HB.out), by repeat (first | (with_reducible first | exact HK.out | apply KeepBut.set_ | apply keep_drewN | apply keep_drew | apply keep_alloc) | exact HK.out)⟩
          · rw [if_neg c10] at H
            exact absurd H (by simp)
        · rw [if_neg c8] at H
          have c8b0 : decide ((wrap64 ((wrap64 (s0_1 + 1)) - 1)) < (s0_0.length : Int)) = false := decide_eq_false c8
          clear c8
          by_cases c13 : (s0_0.length : Int) = 0
          · rw [if_pos c13] at H
            exact absurd H (by simp)
          · rw [if_neg c13] at H
            have c13b0 : ((s0_0.length : Int) == 0) = false := beq_eq_false_iff_ne.mpr c13
            have c13b1 : ((s0_0.length : Int) != 0) = true := bne_iff_ne.mpr c13
            have c13b2 : ¬ (s0_0 = []) := fun h_ => c13 (by rw [h_]; rfl)
            obtain ⟨ji14, hji14⟩ : ∃ j_ : Int, (Int.tmod (wrap64 ((wrap64 (s0_1 + 1)) - 1)) (s0_0.length : Int)) = j_ := ⟨_, rfl⟩
            replace H : (if 0 ≤ (ji14) then (if (ji14) < (s0_0.length : Int) then (if 0 ≤ (Int.tmod (wrap64 ((wrap64 ((wrap64 ((wrap64 (s0_1 + 1)) - 1)) * 7)) + 3)) (s0_0.length : Int)) then (if (Int.tmod (wrap64 ((wrap64 ((wrap64 ((wrap64 (s0_1 + 1)) - 1)) * 7)) + 3)) (s0_0.length : Int)) < (s0_0.length : Int) then (if a1 = 0 then (none) else (some (Int.tmod (Go.bits .xor .i64 (wrap64 ((wrap64 ((wrap64 ((wrap64 ((wrap64 (rd s0_0 (ji14))) * 131)) + (wrap64 ((wrap64 (rd s0_0 (Int.tmod (wrap64 ((wrap64 ((wrap64 ((wrap64 (s0_1 + 1)) - 1)) * 7)) + 3)) (s0_0.length : Int)))) * 1117)))) + (wrap64 ((wrap64 ((wrap64 (s0_1 + 1)) - 1)) * 29)))) + (wrap64 ((wrap64 (Int.tdiv (wrap64 ((wrap64 (s0_1 + 1)) - 1)) (s0_0.length : Int))) * 53)))) (wrap64 (Int.tdiv (wrap64 ((wrap64 ((wrap64 ((wrap64 ((wrap64 (rd s0_0 (ji14))) * 131)) + (wrap64 ((wrap64 (rd s0_0 (Int.tmod (wrap64 ((wrap64 ((wrap64 ((wrap64 (s0_1 + 1)) - 1)) * 7)) + 3)) (s0_0.length : Int)))) * 1117)))) + (wrap64 ((wrap64 ((wrap64 (s0_1 + 1)) - 1)) * 29)))) + (wrap64 ((wrap64 (Int.tdiv (wrap64 ((wrap64 (s0_1 + 1)) - 1)) (s0_0.length : Int))) * 53)))) 64))) a1, (wrap64 (s0_1 + 1))))) else (none)) else (none)) else (none)) else (none)) = some (r1, r2) := by first | (rw [hji14] at H; exact H) | (simp only [hji14] at H ⊢; exact H)
            by_cases c15 : 0 ≤ (ji14)
            · rw [if_pos c15] at H
              have c15b0 : decide (0 ≤ (ji14)) = true := decide_eq_true c15
              clear c15
              by_cases c16 : (ji14) < (s0_0.length : Int)
              · rw [if_pos c16] at H
                have c16b0 : decide ((ji14) < (s0_0.length : Int)) = true := decide_eq_true c16
                clear c16
                obtain ⟨ji17, hji17⟩ : ∃ j_ : Int, (Int.tmod (wrap64 ((wrap64 ((wrap64 ((wrap64 (s0_1 + 1)) - 1)) * 7)) + 3)) (s0_0.length : Int)) = j_ := ⟨_, rfl⟩
                replace H : (if 0 ≤ (ji17) then (if (ji17) < (s0_0.length : Int) then (if a1 = 0 then (none) else (some (Int.tmod (Go.bits .xor .i64 (wrap64 ((wrap64 ((wrap64 ((wrap64 ((wrap64 (rd s0_0 (ji14))) * 131)) + (wrap64 ((wrap64 (rd s0_0 (ji17))) * 1117)))) + (wrap64 ((wrap64 ((wrap64 (s0_1 + 1)) - 1)) * 29)))) + (wrap64 ((wrap64 (Int.tdiv (wrap64 ((wrap64 (s0_1 + 1)) - 1)) (s0_0.length : Int))) * 53)))) (wrap64 (Int.tdiv (wrap64 ((wrap64 ((wrap64 ((wrap64 ((wrap64 (rd s0_0 (ji14))) * 131)) + (wrap64 ((wrap64 (rd s0_0 (ji17))) * 1117)))) + (wrap64 ((wrap64 ((wrap64 (s0_1 + 1)) - 1)) * 29)))) + (wrap64 ((wrap64 (Int.tdiv (wrap64 ((wrap64 (s0_1 + 1)) - 1)) (s0_0.length : Int))) * 53)))) 64))) a1, (wrap64 (s0_1 + 1))))) else (none)) else (none)) = some (r1, r2) := by first | (rw [hji17] at H; exact H) | (simp only [hji17] at H ⊢; exact H)
                by_cases c18 : 0 ≤ (ji17)
                · rw [if_pos c18] at H
                  have c18b0 : decide (0 ≤ (ji17)) = true := decide_eq_true c18
                  clear c18
                  by_cases c19 : (ji17) < (s0_0.length : Int)
                  · rw [if_pos c19] at H
                    have c19b0 : decide ((ji17) < (s0_0.length : Int)) = true := decide_eq_true c19
                    clear c19
                    by_cases c20 : a1 = 0
                    · rw [if_pos c20] at H
                      exact absurd H (by simp)
                    · rw [if_neg c20] at H
                      have c20b0 : (a1 == 0) = false := beq_eq_false_iff_ne.mpr c20
                      have c20b1 : (a1 != 0) = true := bne_iff_ne.mpr c20
                      simp only [Option.some.injEq, Prod.mk.injEq] at H
                      obtain ⟨rfl, rfl⟩ := H
                      obtain ⟨ASz21_0, cSz21_0, HGz21, hgz21, HSz21_0⟩ := HI0.out
                      have hcz21_0 := cellS45_0 HGz21
                      have hcz21_1 := cellS45_1 HGz21
                      have hfz21_1 := blk_frozen HGz21 1
                      clear HGz21 hgz21
                      have p105 : 0 ≤ ((ji14) : Int) := of_decide_eq_true (by first | (with_reducible assumption) | assumption)
                      have q105 : (ji14) < (s0_0.length : Int) := of_decide_eq_true (by first | (with_reducible assumption) | assumption)
                      obtain ⟨ad105, e105, hx105_0⟩ := Kd.at_int HSz21_0 (ji14) p105 q105
                      cases e105
                      replace hx105_0 := pw_cell_below HB.out hx105_0
                      replace p105 := eq_true p105
                      replace q105 := eq_true q105
                      have p106 : 0 ≤ ((ji17) : Int) := of_decide_eq_true (by first | (with_reducible assumption) | assumption)
                      have q106 : (ji17) < (s0_0.length : Int) := of_decide_eq_true (by first | (with_reducible assumption) | assumption)
                      obtain ⟨ad106, e106, hx106_0⟩ := Kd.at_int HSz21_0 (ji17) p106 q106
                      obtain rfl : ad105 = ad106 := (by injection e106)
                      replace hx106_0 := pw_cell_below HB.out hx106_0
                      replace p106 := eq_true p106
                      replace q106 := eq_true q106
                      go_wp2
                      repeat (go_quiet (fail); try go_wp2)
                      go_ret
                      exact ⟨by first | rfl | (simp [errW_none, errW_some] <;> rfl) | (simp only [← hji14, ← hji17]; first | rfl | (simp [errW_none, errW_some] <;> rfl)) | (simp [*, errW_none, errW_some] <;> rfl), by repeat (first | (with_reducible first | exact HI0.out | apply IsS45.alloc | apply IsS45.drewN | apply IsS45.drew | apply IsS45.set_1) | exact HI0.out), by repeat (first | (with_reducible first | exact HB.out | apply below_alloc | apply pw_below_drewN | apply below_drew1 | refine below_set ?_ (IsS45.ge HI0.out)) | exact HB.out), by repeat (first | (with_reducible first | exact HK.out | apply KeepBut.set_ | apply keep_drewN | apply keep_drew | apply keep_alloc) | exact HK.out)⟩
                  · rw [if_neg c19] at H
                    exact absurd H (by simp)
                · rw [if_neg c18] at H
                  exact absurd H (by simp)
              · rw [if_neg c16] at H
                exact absurd H (by simp)
            · rw [if_neg c15] at H
              exact absurd H (by simp)

/-! ### spec_l20Rd_odd: function 24 -/
def spec_l20Rd_odd.f (k : Nat) (s0_0 : List Int) (s0_1 : Int) (a1 : Int) : Option (Bool × Int) := if a1 > 0 then ((spec_l20Rd_pick.f k s0_0 s0_1 a1).bind fun bt107 => (some ((bt107.1 == (wrap64 (a1 - 1))), bt107.2))) else (some (false, s0_1))
theorem spec_l20Rd_odd.mono : ∀ a0 a1 a2 k, LeO (spec_l20Rd_odd.f k a0 a1 a2) (spec_l20Rd_odd.f (k + 1) a0 a1 a2) := by
  intro a0 a1 a2 k
  unfold spec_l20Rd_odd.f
  repeat' first
      | (with_reducible exact spec_l20Rd_pick.mono _ _ _ _)
      | (with_reducible exact LeO.refl _)
      | (with_reducible exact LeO.none _)
      | (with_reducible refine LeO.ite ?_ ?_)
      | (with_reducible refine LeO.bind ?_ (fun _ => ?_))
      | exact spec_l20Rd_pick.mono _ _ _ _
      | exact LeO.none _
      | refine LeO.ite ?_ ?_
      | refine LeO.bind ?_ (fun _ => ?_)
set_option maxHeartbeats 8000000 in
set_option maxRecDepth 100000 in
theorem spec_l20Rd_odd.calls (k : Nat) (g : Nat) (s0_0 : List Int) (s0_1 : Int) (a1 : Int) (r1 : Bool) (r2 : Int) (w0 w : World) (hI : IsS45 w0 w g s0_0 s0_1) (hB : Below w0.heap.size w0 w) (h : spec_l20Rd_odd.f k s0_0 s0_1 a1 = some (r1, r2)) :
    Calls Tryd.prog 24 #[.pointer (some ⟨g, 0, none⟩), .int .i64 a1] w fun e w' => e = .returned (.bool r1) ∧ IsS45 w0 w' g s0_0 r2 ∧ Below w0.heap.size w0 w' ∧ KeepBut w w' g none := by
  have HI0 := Aside0.mk hI
  have HK := Aside0.mk (KeepBut.refl w g none)
  have HL := Aside0.mk hB.size
  clear hI
  have HW0 := Aside0.mk hB.size
  have HB := Aside0.mk hB
  clear hB
  have H : (if a1 > 0 then ((spec_l20Rd_pick.f k s0_0 s0_1 a1).bind fun bt107 => (some ((bt107.1 == (wrap64 (a1 - 1))), bt107.2))) else (some (false, s0_1))) = some (r1, r2) := h
  clear h
  by_cases c3 : a1 > 0
  · rw [if_pos c3] at H
    have c3b0 : decide (0 < a1) = true := decide_eq_true c3
    clear c3
    replace H := Option.bind_eq_some_iff.mp H
    obtain ⟨⟨t107, t108⟩, A40, H⟩ := H
    replace H : (some ((t107 == (wrap64 (a1 - 1))), t108)) = some (r1, r2) := H
    have A4 := Aside0.mk A40
    clear A40
    simp only [Option.some.injEq, Prod.mk.injEq] at H
    obtain ⟨rfl, rfl⟩ := H
    go_enter Tryd.func24, Tryd.ntmps24
    go_wp2_with (first | (go_at_call 13; (with_reducible refine (spec_l20Rd_pick.calls k g s0_0 s0_1 a1 t107 t108 w0 _ ?side1 ?side2 A4.out).mono ?_); (case side1 => repeat (first | (with_reducible first | exact HI0.out | apply IsS45.alloc | apply IsS45.drewN | apply IsS45.drew | apply IsS45.set_1) | exact HI0.out)); (case side2 => repeat (first | (with_reducible first | exact HB.out | apply below_alloc | apply pw_below_drewN | apply below_drew1 | refine below_set ?_ (IsS45.ge HI0.out)) | exact HB.out)); rintro e w5 ⟨rfl, hi, hb, hk⟩; have n0_ := Aside0.mk (KeepBut.trans (by repeat (first | (with_reducible first | exact HK.out | apply KeepBut.set_ | apply keep_drewN | apply keep_drew | apply keep_alloc) | exact HK.out)) hk (.inl rfl)); have n1_ := Aside0.mk (hb); have n2_ := Aside0.mk (hi); clear HK; clear HB; clear HI0; have HK := n0_; have HB := n1_; have HI0 := n2_; clear n0_ n1_ n2_; (try clear hb); (try clear hb2); (try clear hk); (try clear hi)))
    go_ret
    exact ⟨by first | rfl | (simp [errW_none, errW_some] <;> rfl) | (simp [*, errW_none, errW_some] <;> rfl), by repeat (first | (with_reducible first | exact HI0.out | apply IsS45.alloc | apply IsS45.drewN | apply IsS45.drew | apply IsS45.set_1) | exact HI0.out), by repeat (first | (with_reducible first | exact HB.out | apply below_alloc | apply pw_below_drewN | apply below_drew1 | refine below_set ?_ (IsS45.ge HI0.out)) | exact HB.out), by repeat (first | (with_reducible first | exact HK.out | apply KeepBut.set_ | apply keep_drewN | apply keep_drew | apply keep_alloc) | exact HK.out)⟩
  · rw [if_neg c3] at H
    have c3b0 : decide (0 < a1) = false := decide_eq_false c3
    clear c3
    simp only [Option.some.injEq, Prod.mk.injEq] at H
    obtain ⟨rfl, rfl⟩ := H
    go_enter Tryd.func24, Tryd.ntmps24
    go_wp2
    go_ret
    exact ⟨by first | rfl | (simp [errW_none, errW_some] <;> rfl) | (simp [*, errW_none, errW_some] <;> rfl), by repeat (first | (with_reducible first | exact HI0.out | apply IsS45.alloc | apply IsS45.drewN | apply IsS45.drew | apply IsS45.set_1) | exact HI0.out), by repeat (first | (with_reducible first | exact HB.out | apply below_alloc | apply pw_below_drewN | apply below_drew1 | refine below_set ?_ (IsS45.ge HI0.out)) | exact HB.out), by repeat (first | (with_reducible first | exact HK.out | apply KeepBut.set_ | apply keep_drewN | apply keep_drew | apply keep_alloc) | exact HK.out)⟩

/-! ### spec_l20Command: function 12 -/
def spec_l20Command.f (k : Nat) (s0_0 : List Int) (s0_1 : Int) (a1 : Int) : Option (ByteArray × Int) := (some (([(⟨#[49]⟩ : ByteArray), (⟨#[50]⟩ : ByteArray), (⟨#[51]⟩ : ByteArray), (⟨#[49, 44, 50]⟩ : ByteArray), (⟨#[50, 44, 51]⟩ : ByteArray), (⟨#[37]⟩ : ByteArray), (⟨#[49, 44, 49]⟩ : ByteArray)] : List ByteArray) : List ByteArray)).bind fun y109 => ((spec_l20Rd_pick.f k s0_0 s0_1 7).bind fun bt112 => (if 0 ≤ bt112.1 then (if bt112.1 < (y109.length : Int) then ((some (([(⟨#[100]⟩ : ByteArray), (⟨#[116, 48]⟩ : ByteArray), (⟨#[116, 49]⟩ : ByteArray), (⟨#[116, 50]⟩ : ByteArray), (⟨#[115, 47, 97, 47, 98, 47]⟩ : ByteArray), (⟨#[115, 47, 97, 47, 47]⟩ : ByteArray), (⟨#[115, 47, 97, 98, 47, 120, 32, 121, 47]⟩ : ByteArray), (⟨#[62]⟩ : ByteArray), (⟨#[60]⟩ : ByteArray), (⟨#[60]⟩ : ByteArray)] : List ByteArray) : List ByteArray)).bind fun y115 => ((spec_l20Rd_pick.f k s0_0 bt112.2 10).bind fun bt118 => (if 0 ≤ bt118.1 then (if bt118.1 < (y115.length : Int) then (if (rdOf ByteArray.empty y109 bt112.1).size + (rdOf ByteArray.empty y115 bt118.1).size ≤ 9223372036854775807 then ((spec_l20Rd_odd.f k s0_0 bt118.2 a1).bind fun bt121 => (if bt121.1 = true then (if (rdOf ByteArray.empty y109 bt112.1).size + 1 ≤ 9223372036854775807 then (if (rdOf ByteArray.empty y109 bt112.1).size + 5 ≤ 9223372036854775807 then (if (rdOf ByteArray.empty y109 bt112.1).size + 2 ≤ 9223372036854775807 then ((some (([(⟨#[]⟩ : ByteArray), rdOf ByteArray.empty y109 bt112.1, (⟨#[100]⟩ : ByteArray), (⟨#[48, 100]⟩ : ByteArray), (⟨#[51, 44, 49, 100]⟩ : ByteArray), (rdOf ByteArray.empty y109 bt112.1) ++ (⟨#[120]⟩ : ByteArray), (rdOf ByteArray.empty y109 bt112.1) ++ (⟨#[115, 47, 97, 47, 98]⟩ : ByteArray), (rdOf ByteArray.empty y109 bt112.1) ++ (⟨#[116]⟩ : ByteArray), (rdOf ByteArray.empty y109 bt112.1) ++ (⟨#[116, 57]⟩ : ByteArray), (⟨#[49, 44, 100]⟩ : ByteArray), (⟨#[48, 49, 100]⟩ : ByteArray), (rdOf ByteArray.empty y109 bt112.1) ++ (⟨#[100, 100]⟩ : ByteArray), (rdOf ByteArray.empty y109 bt112.1) ++ (⟨#[115, 47, 47, 98, 47]⟩ : ByteArray), (⟨#[57, 57, 57, 57, 100]⟩ : ByteArray)] : List ByteArray) : List ByteArray)).bind fun y123 => ((spec_l20Rd_pick.f k s0_0 bt121.2 14).bind fun bt126 => (if 0 ≤ bt126.1 then (if bt126.1 < (y123.length : Int) then (some (rdOf ByteArray.empty y123 bt126.1, bt126.2)) else (none)) else (none)))) else (none)) else (none)) else (none)) else (some ((rdOf ByteArray.empty y109 bt112.1) ++ (rdOf ByteArray.empty y115 bt118.1), bt121.2)))) else (none)) else (none)) else (none)))) else (none)) else (none)))
theorem spec_l20Command.mono : ∀ a0 a1 a2 k, LeO (spec_l20Command.f k a0 a1 a2) (spec_l20Command.f (k + 1) a0 a1 a2) := by
  intro a0 a1 a2 k
  unfold spec_l20Command.f
  repeat' first
      | (with_reducible exact spec_l20Rd_odd.mono _ _ _ _)
      | (with_reducible exact spec_l20Rd_pick.mono _ _ _ _)
      | (with_reducible exact LeO.refl _)
      | (with_reducible exact LeO.none _)
      | (with_reducible refine LeO.ite ?_ ?_)
      | (with_reducible refine LeO.bind ?_ (fun _ => ?_))
      | exact spec_l20Rd_odd.mono _ _ _ _
      | exact spec_l20Rd_pick.mono _ _ _ _
      | exact LeO.none _
      | refine LeO.ite ?_ ?_
      | refine LeO.bind ?_ (fun _ => ?_)
set_option maxHeartbeats 8000000 in
set_option maxRecDepth 100000 in
theorem spec_l20Command.calls (k : Nat) (g : Nat) (s0_0 : List Int) (s0_1 : Int) (a1 : Int) (r1 : ByteArray) (r2 : Int) (w0 w : World) (hI : IsS45 w0 w g s0_0 s0_1) (hB : Below w0.heap.size w0 w) (h : spec_l20Command.f k s0_0 s0_1 a1 = some (r1, r2)) :
    Calls Tryd.prog 12 #[.pointer (some ⟨g, 0, none⟩), .int .i64 a1] w fun e w' => e = .returned (.string r1) ∧ IsS45 w0 w' g s0_0 r2 ∧ Below w0.heap.size w0 w' ∧ KeepBut w w' g none := by
  have HI0 := Aside0.mk hI
  have HK := Aside0.mk (KeepBut.refl w g none)
  have HL := Aside0.mk hB.size
  clear hI
  have HW0 := Aside0.mk hB.size
  have HB := Aside0.mk hB
  clear hB
  have H : ((some (([(⟨#[49]⟩ : ByteArray), (⟨#[50]⟩ : ByteArray), (⟨#[51]⟩ : ByteArray), (⟨#[49, 44, 50]⟩ : ByteArray), (⟨#[50, 44, 51]⟩ : ByteArray), (⟨#[37]⟩ : ByteArray), (⟨#[49, 44, 49]⟩ : ByteArray)] : List ByteArray) : List ByteArray)).bind fun y109 => ((spec_l20Rd_pick.f k s0_0 s0_1 7).bind fun bt112 => (if 0 ≤ bt112.1 then (if bt112.1 < (y109.length : Int) then ((some (([(⟨#[100]⟩ : ByteArray), (⟨#[116, 48]⟩ : ByteArray), (⟨#[116, 49]⟩ : ByteArray), (⟨#[116, 50]⟩ : ByteArray), (⟨#[115, 47, 97, 47, 98, 47]⟩ : ByteArray), (⟨#[115, 47, 97, 47, 47]⟩ : ByteArray), (⟨#[115, 47, 97, 98, 47, 120, 32, 121, 47]⟩ : ByteArray), (⟨#[62]⟩ : ByteArray), (⟨#[60]⟩ : ByteArray), (⟨#[60]⟩ : ByteArray)] : List ByteArray) : List ByteArray)).bind fun y115 => ((spec_l20Rd_pick.f k s0_0 bt112.2 10).bind fun bt118 => (if 0 ≤ bt118.1 then (if bt118.1 < (y115.length : Int) then (if (rdOf ByteArray.empty y109 bt112.1).size + (rdOf ByteArray.empty y115 bt118.1).size ≤ 9223372036854775807 then ((spec_l20Rd_odd.f k s0_0 bt118.2 a1).bind fun bt121 => (if bt121.1 = true then (if (rdOf ByteArray.empty y109 bt112.1).size + 1 ≤ 9223372036854775807 then (if (rdOf ByteArray.empty y109 bt112.1).size + 5 ≤ 9223372036854775807 then (if (rdOf ByteArray.empty y109 bt112.1).size + 2 ≤ 9223372036854775807 then ((some (([(⟨#[]⟩ : ByteArray), rdOf ByteArray.empty y109 bt112.1, (⟨#[100]⟩ : ByteArray), (⟨#[48, 100]⟩ : ByteArray), (⟨#[51, 44, 49, 100]⟩ : ByteArray), (rdOf ByteArray.empty y109 bt112.1) ++ (⟨#[120]⟩ : ByteArray), (rdOf ByteArray.empty y109 bt112.1) ++ (⟨#[115, 47, 97, 47, 98]⟩ : ByteArray), (rdOf ByteArray.empty y109 bt112.1) ++ (⟨#[116]⟩ : ByteArray), (rdOf ByteArray.empty y109 bt112.1) ++ (⟨#[116, 57]⟩ : ByteArray), (⟨#[49, 44, 100]⟩ : ByteArray), (⟨#[48, 49, 100]⟩ : ByteArray), (rdOf ByteArray.empty y109 bt112.1) ++ (⟨#[100, 100]⟩ : ByteArray), (rdOf ByteArray.empty y109 bt112.1) ++ (⟨#[115, 47, 47, 98, 47]⟩ : ByteArray), (⟨#[57, 57, 57, 57, 100]⟩ : ByteArray)] : List ByteArray) : List ByteArray)).bind fun y123 => ((spec_l20Rd_pick.f k s0_0 bt121.2 14).bind fun bt126 => (if 0 ≤ bt126.1 then (if bt126.1 < (y123.length : Int) then (some (rdOf ByteArray.empty y123 bt126.1, bt126.2)) else (none)) else (none)))) else (none)) else (none)) else (none)) else (some ((rdOf ByteArray.empty y109 bt112.1) ++ (rdOf ByteArray.empty y115 bt118.1), bt121.2)))) else (none)) else (none)) else (none)))) else (none)) else (none)))) = some (r1, r2) := h
  clear h
  obtain ⟨y109, hy109⟩ : ∃ y_ : List ByteArray, y_ = (([(⟨#[49]⟩ : ByteArray), (⟨#[50]⟩ : ByteArray), (⟨#[51]⟩ : ByteArray), (⟨#[49, 44, 50]⟩ : ByteArray), (⟨#[50, 44, 51]⟩ : ByteArray), (⟨#[37]⟩ : ByteArray), (⟨#[49, 44, 49]⟩ : ByteArray)] : List ByteArray)) := ⟨_, rfl⟩
  replace H : ((spec_l20Rd_pick.f k s0_0 s0_1 7).bind fun bt112 => (if 0 ≤ bt112.1 then (if bt112.1 < (y109.length : Int) then ((some (([(⟨#[100]⟩ : ByteArray), (⟨#[116, 48]⟩ : ByteArray), (⟨#[116, 49]⟩ : ByteArray), (⟨#[116, 50]⟩ : ByteArray), (⟨#[115, 47, 97, 47, 98, 47]⟩ : ByteArray), (⟨#[115, 47, 97, 47, 47]⟩ : ByteArray), (⟨#[115, 47, 97, 98, 47, 120, 32, 121, 47]⟩ : ByteArray), (⟨#[62]⟩ : ByteArray), (⟨#[60]⟩ : ByteArray), (⟨#[60]⟩ : ByteArray)] : List ByteArray) : List ByteArray)).bind fun y115 => ((spec_l20Rd_pick.f k s0_0 bt112.2 10).bind fun bt118 => (if 0 ≤ bt118.1 then (if bt118.1 < (y115.length : Int) then (if (rdOf ByteArray.empty y109 bt112.1).size + (rdOf ByteArray.empty y115 bt118.1).size ≤ 9223372036854775807 then ((spec_l20Rd_odd.f k s0_0 bt118.2 a1).bind fun bt121 => (if bt121.1 = true then (if (rdOf ByteArray.empty y109 bt112.1).size + 1 ≤ 9223372036854775807 then (if (rdOf ByteArray.empty y109 bt112.1).size + 5 ≤ 9223372036854775807 then (if (rdOf ByteArray.empty y109 bt112.1).size + 2 ≤ 9223372036854775807 then ((some (([(⟨#[]⟩ : ByteArray), rdOf ByteArray.empty y109 bt112.1, (⟨#[100]⟩ : ByteArray), (⟨#[48, 100]⟩ : ByteArray), (⟨#[51, 44, 49, 100]⟩ : ByteArray), (rdOf ByteArray.empty y109 bt112.1) ++ (⟨#[120]⟩ : ByteArray), (rdOf ByteArray.empty y109 bt112.1) ++ (⟨#[115, 47, 97, 47, 98]⟩ : ByteArray), (rdOf ByteArray.empty y109 bt112.1) ++ (⟨#[116]⟩ : ByteArray), (rdOf ByteArray.empty y109 bt112.1) ++ (⟨#[116, 57]⟩ : ByteArray), (⟨#[49, 44, 100]⟩ : ByteArray), (⟨#[48, 49, 100]⟩ : ByteArray), (rdOf ByteArray.empty y109 bt112.1) ++ (⟨#[100, 100]⟩ : ByteArray), (rdOf ByteArray.empty y109 bt112.1) ++ (⟨#[115, 47, 47, 98, 47]⟩ : ByteArray), (⟨#[57, 57, 57, 57, 100]⟩ : ByteArray)] : List ByteArray) : List ByteArray)).bind fun y123 => ((spec_l20Rd_pick.f k s0_0 bt121.2 14).bind fun bt126 => (if 0 ≤ bt126.1 then (if bt126.1 < (y123.length : Int) then (some (rdOf ByteArray.empty y123 bt126.1, bt126.2)) else (none)) else (none)))) else (none)) else (none)) else (none)) else (some ((rdOf ByteArray.empty y109 bt112.1) ++ (rdOf ByteArray.empty y115 bt118.1), bt121.2)))) else (none)) else (none)) else (none)))) else (none)) else (none))) = some (r1, r2) := by first | (rw [hy109]; with_reducible exact H) | (have H2_ := (Option.bind_some _ _).symm.trans H; rw [hy109]; with_reducible exact H2_) | (have H2_ := (Option.bind_some _ _).symm.trans H; with_reducible exact H2_) | with_reducible exact H | (rw [hy109]; exact H) | exact H
  have Ny109 := Aside0.mk hy109
  clear hy109
  replace H := Option.bind_eq_some_iff.mp H
  obtain ⟨⟨t112, t113⟩, A30, H⟩ := H
  replace H : (if 0 ≤ t112 then (if t112 < (y109.length : Int) then ((some (([(⟨#[100]⟩ : ByteArray), (⟨#[116, 48]⟩ : ByteArray), (⟨#[116, 49]⟩ : ByteArray), (⟨#[116, 50]⟩ : ByteArray), (⟨#[115, 47, 97, 47, 98, 47]⟩ : ByteArray), (⟨#[115, 47, 97, 47, 47]⟩ : ByteArray), (⟨#[115, 47, 97, 98, 47, 120, 32, 121, 47]⟩ : ByteArray), (⟨#[62]⟩ : ByteArray), (⟨#[60]⟩ : ByteArray), (⟨#[60]⟩ : ByteArray)] : List ByteArray) : List ByteArray)).bind fun y115 => ((spec_l20Rd_pick.f k s0_0 t113 10).bind fun bt118 => (if 0 ≤ bt118.1 then (if bt118.1 < (y115.length : Int) then (if (rdOf ByteArray.empty y109 t112).size + (rdOf ByteArray.empty y115 bt118.1).size ≤ 9223372036854775807 then ((spec_l20Rd_odd.f k s0_0 bt118.2 a1).bind fun bt121 => (if bt121.1 = true then (if (rdOf ByteArray.empty y109 t112).size + 1 ≤ 9223372036854775807 then (if (rdOf ByteArray.empty y109 t112).size + 5 ≤ 9223372036854775807 then (if (rdOf ByteArray.empty y109 t112).size + 2 ≤ 9223372036854775807 then ((some (([(⟨#[]⟩ : ByteArray), rdOf ByteArray.empty y109 t112, (⟨#[100]⟩ : ByteArray), (⟨#[48, 100]⟩ : ByteArray), (⟨#[51, 44, 49, 100]⟩ : ByteArray), (rdOf ByteArray.empty y109 t112) ++ (⟨#[120]⟩ : ByteArray), (rdOf ByteArray.empty y109 t112) ++ (⟨#[115, 47, 97, 47, 98]⟩ : ByteArray), (rdOf ByteArray.empty y109 t112) ++ (⟨#[116]⟩ : ByteArray), (rdOf ByteArray.empty y109 t112) ++ (⟨#[116, 57]⟩ : ByteArray), (⟨#[49, 44, 100]⟩ : ByteArray), (⟨#[48, 49, 100]⟩ : ByteArray), (rdOf ByteArray.empty y109 t112) ++ (⟨#[100, 100]⟩ : ByteArray), (rdOf ByteArray.empty y109 t112) ++ (⟨#[115, 47, 47, 98, 47]⟩ : ByteArray), (⟨#[57, 57, 57, 57, 100]⟩ : ByteArray)] : List ByteArray) : List ByteArray)).bind fun y123 => ((spec_l20Rd_pick.f k s0_0 bt121.2 14).bind fun bt126 => (if 0 ≤ bt126.1 then (if bt126.1 < (y123.length : Int) then (some (rdOf ByteArray.empty y123 bt126.1, bt126.2)) else (none)) else (none)))) else (none)) else (none)) else (none)) else (some ((rdOf ByteArray.empty y109 t112) ++ (rdOf ByteArray.empty y115 bt118.1), bt121.2)))) else (none)) else (none)) else (none)))) else (none)) else (none)) = some (r1, r2) := H
  have A3 := Aside0.mk A30
  clear A30
  by_cases c4 : 0 ≤ t112
  · rw [if_pos c4] at H
    have c4b0 : decide (0 ≤ t112) = true := decide_eq_true c4
    clear c4
    by_cases c5 : t112 < (y109.length : Int)
    · rw [if_pos c5] at H
      have c5b0 : decide (t112 < (y109.length : Int)) = true := decide_eq_true c5
      clear c5
      obtain ⟨y115, hy115⟩ : ∃ y_ : List ByteArray, y_ = (([(⟨#[100]⟩ : ByteArray), (⟨#[116, 48]⟩ : ByteArray), (⟨#[116, 49]⟩ : ByteArray), (⟨#[116, 50]⟩ : ByteArray), (⟨#[115, 47, 97, 47, 98, 47]⟩ : ByteArray), (⟨#[115, 47, 97, 47, 47]⟩ : ByteArray), (⟨#[115, 47, 97, 98, 47, 120, 32, 121, 47]⟩ : ByteArray), (⟨#[62]⟩ : ByteArray), (⟨#[60]⟩ : ByteArray), (⟨#[60]⟩ : ByteArray)] : List ByteArray)) := ⟨_, rfl⟩
      replace H : ((spec_l20Rd_pick.f k s0_0 t113 10).bind fun bt118 => (if 0 ≤ bt118.1 then (if bt118.1 < (y115.length : Int) then (if (rdOf ByteArray.empty y109 t112).size + (rdOf ByteArray.empty y115 bt118.1).size ≤ 9223372036854775807 then ((spec_l20Rd_odd.f k s0_0 bt118.2 a1).bind fun bt121 => (if bt121.1 = true then (if (rdOf ByteArray.empty y109 t112).size + 1 ≤ 9223372036854775807 then (if (rdOf ByteArray.empty y109 t112).size + 5 ≤ 9223372036854775807 then (if (rdOf ByteArray.empty y109 t112).size + 2 ≤ 9223372036854775807 then ((some (([(⟨#[]⟩ : ByteArray), rdOf ByteArray.empty y109 t112, (⟨#[100]⟩ : ByteArray), (⟨#[48, 100]⟩ : ByteArray), (⟨#[51, 44, 49, 100]⟩ : ByteArray), (rdOf ByteArray.empty y109 t112) ++ (⟨#[120]⟩ : ByteArray), (rdOf ByteArray.empty y109 t112) ++ (⟨#[115, 47, 97, 47, 98]⟩ : ByteArray), (rdOf ByteArray.empty y109 t112) ++ (⟨#[116]⟩ : ByteArray), (rdOf ByteArray.empty y109 t112) ++ (⟨#[116, 57]⟩ : ByteArray), (⟨#[49, 44, 100]⟩ : ByteArray), (⟨#[48, 49, 100]⟩ : ByteArray), (rdOf ByteArray.empty y109 t112) ++ (⟨#[100, 100]⟩ : ByteArray), (rdOf ByteArray.empty y109 t112) ++ (⟨#[115, 47, 47, 98, 47]⟩ : ByteArray), (⟨#[57, 57, 57, 57, 100]⟩ : ByteArray)] : List ByteArray) : List ByteArray)).bind fun y123 => ((spec_l20Rd_pick.f k s0_0 bt121.2 14).bind fun bt126 => (if 0 ≤ bt126.1 then (if bt126.1 < (y123.length : Int) then (some (rdOf ByteArray.empty y123 bt126.1, bt126.2)) else (none)) else (none)))) else (none)) else (none)) else (none)) else (some ((rdOf ByteArray.empty y109 t112) ++ (rdOf ByteArray.empty y115 bt118.1), bt121.2)))) else (none)) else (none)) else (none))) = some (r1, r2) := by first | (rw [hy115]; with_reducible exact H) | (have H2_ := (Option.bind_some _ _).symm.trans H; rw [hy115]; with_reducible exact H2_) | (have H2_ := (Option.bind_some _ _).symm.trans H; with_reducible exact H2_) | with_reducible exact H | (rw [hy115]; exact H) | exact H
      have Ny115 := Aside0.mk hy115
      clear hy115
      replace H := Option.bind_eq_some_iff.mp H
      obtain ⟨⟨t118, t119⟩, A60, H⟩ := H
      replace H : (if 0 ≤ t118 then (if t118 < (y115.length : Int) then (if (rdOf ByteArray.empty y109 t112).size + (rdOf ByteArray.empty y115 t118).size ≤ 9223372036854775807 then ((spec_l20Rd_odd.f k s0_0 t119 a1).bind fun bt121 => (if bt121.1 = true then (if (rdOf ByteArray.empty y109 t112).size + 1 ≤ 9223372036854775807 then (if (rdOf ByteArray.empty y109 t112).size + 5 ≤ 9223372036854775807 then (if (rdOf ByteArray.empty y109 t112).size + 2 ≤ 9223372036854775807 then ((some (([(⟨#[]⟩ : ByteArray), rdOf ByteArray.empty y109 t112, (⟨#[100]⟩ : ByteArray), (⟨#[48, 100]⟩ : ByteArray), (⟨#[51, 44, 49, 100]⟩ : ByteArray), (rdOf ByteArray.empty y109 t112) ++ (⟨#[120]⟩ : ByteArray), (rdOf ByteArray.empty y109 t112) ++ (⟨#[115, 47, 97, 47, 98]⟩ : ByteArray), (rdOf ByteArray.empty y109 t112) ++ (⟨#[116]⟩ : ByteArray), (rdOf ByteArray.empty y109 t112) ++ (⟨#[116, 57]⟩ : ByteArray), (⟨#[49, 44, 100]⟩ : ByteArray), (⟨#[48, 49, 100]⟩ : ByteArray), (rdOf ByteArray.empty y109 t112) ++ (⟨#[100, 100]⟩ : ByteArray), (rdOf ByteArray.empty y109 t112) ++ (⟨#[115, 47, 47, 98, 47]⟩ : ByteArray), (⟨#[57, 57, 57, 57, 100]⟩ : ByteArray)] : List ByteArray) : List ByteArray)).bind fun y123 => ((spec_l20Rd_pick.f k s0_0 bt121.2 14).bind fun bt126 => (if 0 ≤ bt126.1 then (if bt126.1 < (y123.length : Int) then (some (rdOf ByteArray.empty y123 bt126.1, bt126.2)) else (none)) else (none)))) else (none)) else (none)) else (none)) else (some ((rdOf ByteArray.empty y109 t112) ++ (rdOf ByteArray.empty y115 t118), bt121.2)))) else (none)) else (none)) else (none)) = some (r1, r2) := H
      have A6 := Aside0.mk A60
      clear A60
      by_cases c7 : 0 ≤ t118
      · rw [if_pos c7] at H
        have c7b0 : decide (0 ≤ t118) = true := decide_eq_true c7
        clear c7
        by_cases c8 : t118 < (y115.length : Int)
        · rw [if_pos c8] at H
          have c8b0 : decide (t118 < (y115.length : Int)) = true := decide_eq_true c8
          clear c8
          by_cases c9 : (rdOf ByteArray.empty y109 t112).size + (rdOf ByteArray.empty y115 t118).size ≤ 9223372036854775807
          · rw [if_pos c9] at H
            have c9b0 := eq_true c9
            have c9b1 : decide ((rdOf ByteArray.empty y109 t112).size + (rdOf ByteArray.empty y115 t118).size ≤ 9223372036854775807) = true := decide_eq_true c9
            try have c9b2 : (9223372036854775807 < (rdOf ByteArray.empty y109 t112).size + (rdOf ByteArray.empty y115 t118).size) = False := eq_false (Nat.not_lt.2 c9)
            replace H := Option.bind_eq_some_iff.mp H
            obtain ⟨⟨t121, t122⟩, A100, H⟩ := H
            replace H : (if t121 = true then (if (rdOf ByteArray.empty y109 t112).size + 1 ≤ 9223372036854775807 then (if (rdOf ByteArray.empty y109 t112).size + 5 ≤ 9223372036854775807 then (if (rdOf ByteArray.empty y109 t112).size + 2 ≤ 9223372036854775807 then ((some (([(⟨#[]⟩ : ByteArray), rdOf ByteArray.empty y109 t112, (⟨#[100]⟩ : ByteArray), (⟨#[48, 100]⟩ : ByteArray), (⟨#[51, 44, 49, 100]⟩ : ByteArray), (rdOf ByteArray.empty y109 t112) ++ (⟨#[120]⟩ : ByteArray), (rdOf ByteArray.empty y109 t112) ++ (⟨#[115, 47, 97, 47, 98]⟩ : ByteArray), (rdOf ByteArray.empty y109 t112) ++ (⟨#[116]⟩ : ByteArray), (rdOf ByteArray.empty y109 t112) ++ (⟨#[116, 57]⟩ : ByteArray), (⟨#[49, 44, 100]⟩ : ByteArray), (⟨#[48, 49, 100]⟩ : ByteArray), (rdOf ByteArray.empty y109 t112) ++ (⟨#[100, 100]⟩ : ByteArray), (rdOf ByteArray.empty y109 t112) ++ (⟨#[115, 47, 47, 98, 47]⟩ : ByteArray), (⟨#[57, 57, 57, 57, 100]⟩ : ByteArray)] : List ByteArray) : List ByteArray)).bind fun y123 => ((spec_l20Rd_pick.f k s0_0 t122 14).bind fun bt126 => (if 0 ≤ bt126.1 then (if bt126.1 < (y123.length : Int) then (some (rdOf ByteArray.empty y123 bt126.1, bt126.2)) else (none)) else (none)))) else (none)) else (none)) else (none)) else (some ((rdOf ByteArray.empty y109 t112) ++ (rdOf ByteArray.empty y115 t118), t122))) = some (r1, r2) := H
            have A10 := Aside0.mk A100
            clear A100
            by_cases c11 : t121 = true
            · subst c11
              have H1 : (if (rdOf ByteArray.empty y109 t112).size + 1 ≤ 9223372036854775807 then (if (rdOf ByteArray.empty y109 t112).size + 5 ≤ 9223372036854775807 then (if (rdOf ByteArray.empty y109 t112).size + 2 ≤ 9223372036854775807 then ((some (([(⟨#[]⟩ : ByteArray), rdOf ByteArray.empty y109 t112, (⟨#[100]⟩ : ByteArray), (⟨#[48, 100]⟩ : ByteArray), (⟨#[51, 44, 49, 100]⟩ : ByteArray), (rdOf ByteArray.empty y109 t112) ++ (⟨#[120]⟩ : ByteArray), (rdOf ByteArray.empty y109 t112) ++ (⟨#[115, 47, 97, 47, 98]⟩ : ByteArray), (rdOf ByteArray.empty y109 t112) ++ (⟨#[116]⟩ : ByteArray), (rdOf ByteArray.empty y109 t112) ++ (⟨#[116, 57]⟩ : ByteArray), (⟨#[49, 44, 100]⟩ : ByteArray), (⟨#[48, 49, 100]⟩ : ByteArray), (rdOf ByteArray.empty y109 t112) ++ (⟨#[100, 100]⟩ : ByteArray), (rdOf ByteArray.empty y109 t112) ++ (⟨#[115, 47, 47, 98, 47]⟩ : ByteArray), (⟨#[57, 57, 57, 57, 100]⟩ : ByteArray)] : List ByteArray) : List ByteArray)).bind fun y123 => ((spec_l20Rd_pick.f k s0_0 t122 14).bind fun bt126 => (if 0 ≤ bt126.1 then (if bt126.1 < (y123.length : Int) then (some (rdOf ByteArray.empty y123 bt126.1, bt126.2)) else (none)) else (none)))) else (none)) else (none)) else (none)) = some (r1, r2) := by rw [if_pos rfl] at H; exact H
              clear H
              have H := H1
              clear H1
              by_cases c12 : (rdOf ByteArray.empty y109 t112).size + 1 ≤ 9223372036854775807
              · rw [if_pos c12] at H
                have c12b0 := eq_true c12
                have c12b1 : decide ((rdOf ByteArray.empty y109 t112).size + 1 ≤ 9223372036854775807) = true := decide_eq_true c12
                try have c12b2 : (9223372036854775807 < (rdOf ByteArray.empty y109 t112).size + 1) = False := eq_false (Nat.not_lt.2 c12)
                by_cases c13 : (rdOf ByteArray.empty y109 t112).size + 5 ≤ 9223372036854775807
                · rw [if_pos c13] at H
                  have c13b0 := eq_true c13
                  have c13b1 : decide ((rdOf ByteArray.empty y109 t112).size + 5 ≤ 9223372036854775807) = true := decide_eq_true c13
                  try have c13b2 : (9223372036854775807 < (rdOf ByteArray.empty y109 t112).size + 5) = False := eq_false (Nat.not_lt.2 c13)
                  by_cases c14 : (rdOf ByteArray.empty y109 t112).size + 2 ≤ 9223372036854775807
                  · rw [if_pos c14] at H
                    have c14b0 := eq_true c14
                    have c14b1 : decide ((rdOf ByteArray.empty y109 t112).size + 2 ≤ 9223372036854775807) = true := decide_eq_true c14
                    try have c14b2 : (9223372036854775807 < (rdOf ByteArray.empty y109 t112).size + 2) = False := eq_false (Nat.not_lt.2 c14)
                    obtain ⟨y123, hy123⟩ : ∃ y_ : List ByteArray, y_ = (([(⟨#[]⟩ : ByteArray), rdOf ByteArray.empty y109 t112, (⟨#[100]⟩ : ByteArray), (⟨#[48, 100]⟩ : ByteArray), (⟨#[51, 44, 49, 100]⟩ : ByteArray), (rdOf ByteArray.empty y109 t112) ++ (⟨#[120]⟩ : ByteArray), (rdOf ByteArray.empty y109 t112) ++ (⟨#[115, 47, 97, 47, 98]⟩ : ByteArray), (rdOf ByteArray.empty y109 t112) ++ (⟨#[116]⟩ : ByteArray), (rdOf ByteArray.empty y109 t112) ++ (⟨#[116, 57]⟩ : ByteArray), (⟨#[49, 44, 100]⟩ : ByteArray), (⟨#[48, 49, 100]⟩ : ByteArray), (rdOf ByteArray.empty y109 t112) ++ (⟨#[100, 100]⟩ : ByteArray), (rdOf ByteArray.empty y109 t112) ++ (⟨#[115, 47, 47, 98, 47]⟩ : ByteArray), (⟨#[57, 57, 57, 57, 100]⟩ : ByteArray)] : List ByteArray)) := ⟨_, rfl⟩
                    replace H : ((spec_l20Rd_pick.f k s0_0 t122 14).bind fun bt126 => (if 0 ≤ bt126.1 then (if bt126.1 < (y123.length : Int) then (some (rdOf ByteArray.empty y123 bt126.1, bt126.2)) else (none)) else (none))) = some (r1, r2) := by first | (rw [hy123]; with_reducible exact H) | (have H2_ := (Option.bind_some _ _).symm.trans H; rw [hy123]; with_reducible exact H2_) | (have H2_ := (Option.bind_some _ _).symm.trans H; with_reducible exact H2_) | with_reducible exact H | (rw [hy123]; exact H) | exact H
                    have Ny123 := Aside0.mk hy123
                    clear hy123
                    replace H := Option.bind_eq_some_iff.mp H
                    obtain ⟨⟨t126, t127⟩, A150, H⟩ := H
                    replace H : (if 0 ≤ t126 then (if t126 < (y123.length : Int) then (some (rdOf ByteArray.empty y123 t126, t127)) else (none)) else (none)) = some (r1, r2) := H
                    have A15 := Aside0.mk A150
                    clear A150
                    by_cases c16 : 0 ≤ t126
                    · rw [if_pos c16] at H
                      have c16b0 : decide (0 ≤ t126) = true := decide_eq_true c16
                      clear c16
                      by_cases c17 : t126 < (y123.length : Int)
                      · rw [if_pos c17] at H
                        have c17b0 : decide (t126 < (y123.length : Int)) = true := decide_eq_true c17
                        clear c17
                        simp only [Option.some.injEq, Prod.mk.injEq] at H
                        obtain ⟨rfl, rfl⟩ := H
                        go_enter Tryd.func12, Tryd.ntmps12
                        go_wp2_with (first | ((with_reducible refine gate_dst (N := 7) rfl ?_); refine Kd.R_lit Kd.string _ 9 ?hg (N := 7) ?hd (xs := ([(⟨#[49]⟩ : ByteArray), (⟨#[50]⟩ : ByteArray), (⟨#[51]⟩ : ByteArray), (⟨#[49, 44, 50]⟩ : ByteArray), (⟨#[50, 44, 51]⟩ : ByteArray), (⟨#[37]⟩ : ByteArray), (⟨#[49, 44, 49]⟩ : ByteArray)] : List ByteArray)) (inner := [.string (⟨#[49]⟩ : ByteArray), .string (⟨#[50]⟩ : ByteArray), .string (⟨#[51]⟩ : ByteArray), .string (⟨#[49, 44, 50]⟩ : ByteArray), .string (⟨#[50, 44, 51]⟩ : ByteArray), .string (⟨#[37]⟩ : ByteArray), .string (⟨#[49, 44, 49]⟩ : ByteArray)]) (ok := fun _ => True) (okp := fun _ => True) ?hr ?hp (fun _ hk => hk) trivial (Below.refl _ _) (Nat.le_refl _) (by simp) ?_; (case hd => rfl); (case hg => rfl); (case hr => first | (go_simp; done) | (go_simp; rfl) | (simp only [i64_w]; first | (go_simp; done) | (go_simp; rfl))); (case hp => exact (Reps.one (show Kd.M Kd.string _ _ _ (⟨#[49]⟩ : ByteArray) [.string (⟨#[49]⟩ : ByteArray)] from rfl) (Reps.one (show Kd.M Kd.string _ _ _ (⟨#[50]⟩ : ByteArray) [.string (⟨#[50]⟩ : ByteArray)] from rfl) (Reps.one (show Kd.M Kd.string _ _ _ (⟨#[51]⟩ : ByteArray) [.string (⟨#[51]⟩ : ByteArray)] from rfl) (Reps.one (show Kd.M Kd.string _ _ _ (⟨#[49, 44, 50]⟩ : ByteArray) [.string (⟨#[49, 44, 50]⟩ : ByteArray)] from rfl) (Reps.one (show Kd.M Kd.string _ _ _ (⟨#[50, 44, 51]⟩ : ByteArray) [.string (⟨#[50, 44, 51]⟩ : ByteArray)] from rfl) (Reps.one (show Kd.M Kd.string _ _ _ (⟨#[37]⟩ : ByteArray) [.string (⟨#[37]⟩ : ByteArray)] from rfl) (Reps.one (show Kd.M Kd.string _ _ _ (⟨#[49, 44, 49]⟩ : ByteArray) [.string (⟨#[49, 44, 49]⟩ : ByteArray)] from rfl) (Reps.none _ _))))))))); intro v110 w18 ho19 hb hg_ hnew_; clear hg_ hnew_; (first | rw [← Ny109.out] at ho19 | (simp only [Int.reduceToNat] at ho19; rw [← Ny109.out] at ho19)); have n0_ := Aside0.mk (Kd.R_lower ho19 (keep_size (w := w) (g := g) (row := none) (by repeat (first | (with_reducible first | exact HK.out | apply KeepBut.set_ | apply keep_drewN | apply keep_drew | apply keep_alloc) | exact HK.out)))); have n1_ := Aside0.mk (IsS45.below (by repeat (first | (with_reducible first | exact HI0.out | apply IsS45.alloc | apply IsS45.drewN | apply IsS45.drew | apply IsS45.set_1) | exact HI0.out)) hb); have n2_ := Aside0.mk (KeepBut.trans (by repeat (first | (with_reducible first | exact HK.out | apply KeepBut.set_ | apply keep_drewN | apply keep_drew | apply keep_alloc) | exact HK.out)) (KeepBut.of_below hb g none) (.inl rfl)); have n3_ := Aside0.mk (below_step (by repeat (first | (with_reducible first | exact HB.out | apply below_alloc | apply pw_below_drewN | apply below_drew1 | refine below_set ?_ (IsS45.ge HI0.out)) | exact HB.out)) hb); clear HI0; clear HK; clear HB; have HO111 := n0_; have HI0 := n1_; have HK := n2_; have HB := n3_; clear n0_ n1_ n2_ n3_; clear hb ho19) | ((with_reducible refine gate_callee (f := 13) rfl ?_); refine goesL_ (some 9) rfl rfl Tryd.func13 (by kernel_rfl) rfl #[.pointer (some ⟨g, 0, none⟩), .int .i64 7] rfl (by (try simp only [List.map_toArray, List.map_cons, List.map_nil]); first | done | rfl | (simp only [List.length_drop, List.length_take]; rfl)) ?_; (with_reducible refine (spec_l20Rd_pick.calls k g s0_0 s0_1 7 t112 t113 w0 _ ?side1 ?side2 A3.out).mono ?_); (case side1 => repeat (first | (with_reducible first | exact HI0.out | apply IsS45.alloc | apply IsS45.drewN | apply IsS45.drew | apply IsS45.set_1) | exact HI0.out)); (case side2 => repeat (first | (with_reducible first | exact HB.out | apply below_alloc | apply pw_below_drewN | apply below_drew1 | refine below_set ?_ (IsS45.ge HI0.out)) | exact HB.out)); rintro e w20 ⟨rfl, hi, hb, hk⟩; refine ⟨_, rfl, ?_⟩; have n0_ := Aside0.mk (Kd.R_mono (Kd.R_keep (IsS45.apart (show IsS45 w0 _ g s0_0 s0_1 from by repeat (first | (with_reducible first | exact HI0.out | apply IsS45.alloc | apply IsS45.drewN | apply IsS45.drew | apply IsS45.set_1) | exact HI0.out)) (by (with_reducible repeat (first | apply Kd.R_alloc | apply Kd.R_drewN | apply Kd.R_drew)); exact HO111.out) (by decide)) hk (fun _ h => h.2)) (fun _ h => h.1)); have n1_ := Aside0.mk (KeepBut.trans (by repeat (first | (with_reducible first | exact HK.out | apply KeepBut.set_ | apply keep_drewN | apply keep_drew | apply keep_alloc) | exact HK.out)) hk (.inl rfl)); have n2_ := Aside0.mk (hb); have n3_ := Aside0.mk (hi); clear HO111; clear HK; clear HB; clear HI0; have HO111 := n0_; have HK := n1_; have HB := n2_; have HI0 := n3_; clear n0_ n1_ n2_ n3_; (try clear hb); (try clear hb2); (try clear hk); (try clear hi); obtain ⟨Ao21, co21, eo21⟩ := Kd.R_slice HO111.out; subst eo21; have p114 : 0 ≤ (t112 : Int) := of_decide_eq_true (by first | (with_reducible assumption) | assumption); have q114 : t112 < (y109.length : Int) := of_decide_eq_true (by first | (with_reducible assumption) | assumption); obtain ⟨ad114, e114, hx114_0⟩ := Kd.at_string (Kd.R_reads' HO111.out).2.2 t112 p114 q114; cases e114; replace p114 := eq_true p114; replace q114 := eq_true q114) | ((with_reducible refine gate_dst (N := 13) rfl ?_); refine Kd.R_lit Kd.string _ 9 ?hg (N := 13) ?hd (xs := ([(⟨#[100]⟩ : ByteArray), (⟨#[116, 48]⟩ : ByteArray), (⟨#[116, 49]⟩ : ByteArray), (⟨#[116, 50]⟩ : ByteArray), (⟨#[115, 47, 97, 47, 98, 47]⟩ : ByteArray), (⟨#[115, 47, 97, 47, 47]⟩ : ByteArray), (⟨#[115, 47, 97, 98, 47, 120, 32, 121, 47]⟩ : ByteArray), (⟨#[62]⟩ : ByteArray), (⟨#[60]⟩ : ByteArray), (⟨#[60]⟩ : ByteArray)] : List ByteArray)) (inner := [.string (⟨#[100]⟩ : ByteArray), .string (⟨#[116, 48]⟩ : ByteArray), .string (⟨#[116, 49]⟩ : ByteArray), .string (⟨#[116, 50]⟩ : ByteArray), .string (⟨#[115, 47, 97, 47, 98, 47]⟩ : ByteArray), .string (⟨#[115, 47, 97, 47, 47]⟩ : ByteArray), .string (⟨#[115, 47, 97, 98, 47, 120, 32, 121, 47]⟩ : ByteArray), .string (⟨#[62]⟩ : ByteArray), .string (⟨#[60]⟩ : ByteArray), .string (⟨#[60]⟩ : ByteArray)]) (ok := fun _ => True) (okp := fun _ => True) ?hr ?hp (fun _ hk => hk) trivial (Below.refl _ _) (Nat.le_refl _) (by simp) ?_; (case hd => rfl); (case hg => rfl); (case hr => first | (go_simp; done) | (go_simp; rfl) | (simp only [i64_w]; first | (go_simp; done) | (go_simp; rfl))); (case hp => exact (Reps.one (show Kd.M Kd.string _ _ _ (⟨#[100]⟩ : ByteArray) [.string (⟨#[100]⟩ : ByteArray)] from rfl) (Reps.one (show Kd.M Kd.string _ _ _ (⟨#[116, 48]⟩ : ByteArray) [.string (⟨#[116, 48]⟩ : ByteArray)] from rfl) (Reps.one (show Kd.M Kd.string _ _ _ (⟨#[116, 49]⟩ : ByteArray) [.string (⟨#[116, 49]⟩ : ByteArray)] from rfl) (Reps.one (show Kd.M Kd.string _ _ _ (⟨#[116, 50]⟩ : ByteArray) [.string (⟨#[116, 50]⟩ : ByteArray)] from rfl) (Reps.one (show Kd.M Kd.string _ _ _ (⟨#[115, 47, 97, 47, 98, 47]⟩ : ByteArray) [.string (⟨#[115, 47, 97, 47, 98, 47]⟩ : ByteArray)] from rfl) (Reps.one (show Kd.M Kd.string _ _ _ (⟨#[115, 47, 97, 47, 47]⟩ : ByteArray) [.string (⟨#[115, 47, 97, 47, 47]⟩ : ByteArray)] from rfl) (Reps.one (show Kd.M Kd.string _ _ _ (⟨#[115, 47, 97, 98, 47, 120, 32, 121, 47]⟩ : ByteArray) [.string (⟨#[115, 47, 97, 98, 47, 120, 32, 121, 47]⟩ : ByteArray)] from rfl) (Reps.one (show Kd.M Kd.string _ _ _ (⟨#[62]⟩ : ByteArray) [.string (⟨#[62]⟩ : ByteArray)] from rfl) (Reps.one (show Kd.M Kd.string _ _ _ (⟨#[60]⟩ : ByteArray) [.string (⟨#[60]⟩ : ByteArray)] from rfl) (Reps.one (show Kd.M Kd.string _ _ _ (⟨#[60]⟩ : ByteArray) [.string (⟨#[60]⟩ : ByteArray)] from rfl) (Reps.none _ _)))))))))))); intro v116 w22 ho23 hb hg_ hnew_; clear hg_ hnew_; (first | rw [← Ny115.out] at ho23 | (simp only [Int.reduceToNat] at ho23; rw [← Ny115.out] at ho23)); have n0_ := Aside0.mk (Kd.R_elder' (by (with_reducible repeat (first | apply Kd.R_alloc | apply Kd.R_drewN | apply Kd.R_drew)); exact HO111.out) (Kd.R_base ho23) hb); have n1_ := Aside0.mk (Kd.R_lower (Kd.R_new' ho23 (Kd.R_lt (by (with_reducible repeat (first | apply Kd.R_alloc | apply Kd.R_drewN | apply Kd.R_drew)); exact HO111.out))) (keep_size (w := w) (g := g) (row := none) (by repeat (first | (with_reducible first | exact HK.out | apply KeepBut.set_ | apply keep_drewN | apply keep_drew | apply keep_alloc) | exact HK.out)))); have n2_ := Aside0.mk (IsS45.below (by repeat (first | (with_reducible first | exact HI0.out | apply IsS45.alloc | apply IsS45.drewN | apply IsS45.drew | apply IsS45.set_1) | exact HI0.out)) hb); have n3_ := Aside0.mk (KeepBut.trans (by repeat (first | (with_reducible first | exact HK.out | apply KeepBut.set_ | apply keep_drewN | apply keep_drew | apply keep_alloc) | exact HK.out)) (KeepBut.of_below hb g none) (.inl rfl)); have n4_ := Aside0.mk (below_step (by repeat (first | (with_reducible first | exact HB.out | apply below_alloc | apply pw_below_drewN | apply below_drew1 | refine below_set ?_ (IsS45.ge HI0.out)) | exact HB.out)) hb); clear HO111; clear HI0; clear HK; clear HB; have HO111 := n0_; have HO117 := n1_; have HI0 := n2_; have HK := n3_; have HB := n4_; clear n0_ n1_ n2_ n3_ n4_; clear hb ho23) | ((with_reducible refine gate_callee (f := 13) rfl ?_); refine goesL_ (some 15) rfl rfl Tryd.func13 (by kernel_rfl) rfl #[.pointer (some ⟨g, 0, none⟩), .int .i64 10] rfl (by (try simp only [List.map_toArray, List.map_cons, List.map_nil]); first | done | rfl | (simp only [List.length_drop, List.length_take]; rfl)) ?_; (with_reducible refine (spec_l20Rd_pick.calls k g s0_0 t113 10 t118 t119 w0 _ ?side1 ?side2 A6.out).mono ?_); (case side1 => repeat (first | (with_reducible first | exact HI0.out | apply IsS45.alloc | apply IsS45.drewN | apply IsS45.drew | apply IsS45.set_1) | exact HI0.out)); (case side2 => repeat (first | (with_reducible first | exact HB.out | apply below_alloc | apply pw_below_drewN | apply below_drew1 | refine below_set ?_ (IsS45.ge HI0.out)) | exact HB.out)); rintro e w24 ⟨rfl, hi, hb, hk⟩; refine ⟨_, rfl, ?_⟩; have n0_ := Aside0.mk (Kd.R_mono (Kd.R_keep (IsS45.apart (show IsS45 w0 _ g s0_0 t113 from by repeat (first | (with_reducible first | exact HI0.out | apply IsS45.alloc | apply IsS45.drewN | apply IsS45.drew | apply IsS45.set_1) | exact HI0.out)) (by (with_reducible repeat (first | apply Kd.R_alloc | apply Kd.R_drewN | apply Kd.R_drew)); exact HO111.out) (by decide)) hk (fun _ h => h.2)) (fun _ h => h.1)); have n1_ := Aside0.mk (Kd.R_mono (Kd.R_keep (IsS45.apart (show IsS45 w0 _ g s0_0 t113 from by repeat (first | (with_reducible first | exact HI0.out | apply IsS45.alloc | apply IsS45.drewN | apply IsS45.drew | apply IsS45.set_1) | exact HI0.out)) (by (with_reducible repeat (first | apply Kd.R_alloc | apply Kd.R_drewN | apply Kd.R_drew)); exact HO117.out) (by decide)) hk (fun _ h => h.2)) (fun _ h => h.1)); have n2_ := Aside0.mk (KeepBut.trans (by repeat (first | (with_reducible first | exact HK.out | apply KeepBut.set_ | apply keep_drewN | apply keep_drew | apply keep_alloc) | exact HK.out)) hk (.inl rfl)); have n3_ := Aside0.mk (hb); have n4_ := Aside0.mk (hi); clear HO111; clear HO117; clear HK; clear HB; clear HI0; have HO111 := n0_; have HO117 := n1_; have HK := n2_; have HB := n3_; have HI0 := n4_; clear n0_ n1_ n2_ n3_ n4_; (try clear hb); (try clear hb2); (try clear hk); (try clear hi); obtain ⟨Ao25, co25, eo25⟩ := Kd.R_slice HO117.out; subst eo25; have p120 : 0 ≤ (t118 : Int) := of_decide_eq_true (by first | (with_reducible assumption) | assumption); have q120 : t118 < (y115.length : Int) := of_decide_eq_true (by first | (with_reducible assumption) | assumption); obtain ⟨ad120, e120, hx120_0⟩ := Kd.at_string (Kd.R_reads' HO117.out).2.2 t118 p120 q120; cases e120; replace p120 := eq_true p120; replace q120 := eq_true q120) | ((with_reducible refine gate_callee (f := 24) rfl ?_); refine goesL_ (some 21) rfl rfl Tryd.func24 (by kernel_rfl) rfl #[.pointer (some ⟨g, 0, none⟩), .int .i64 a1] rfl (by (try simp only [List.map_toArray, List.map_cons, List.map_nil]); first | done | rfl | (simp only [List.length_drop, List.length_take]; rfl)) ?_; (with_reducible refine (spec_l20Rd_odd.calls k g s0_0 t119 a1 true t122 w0 _ ?side1 ?side2 A10.out).mono ?_); (case side1 => repeat (first | (with_reducible first | exact HI0.out | apply IsS45.alloc | apply IsS45.drewN | apply IsS45.drew | apply IsS45.set_1) | exact HI0.out)); (case side2 => repeat (first | (with_reducible first | exact HB.out | apply below_alloc | apply pw_below_drewN | apply below_drew1 | refine below_set ?_ (IsS45.ge HI0.out)) | exact HB.out)); rintro e w26 ⟨rfl, hi, hb, hk⟩; refine ⟨_, rfl, ?_⟩; have n0_ := Aside0.mk (Kd.R_mono (Kd.R_keep (IsS45.apart (show IsS45 w0 _ g s0_0 t119 from by repeat (first | (with_reducible first | exact HI0.out | apply IsS45.alloc | apply IsS45.drewN | apply IsS45.drew | apply IsS45.set_1) | exact HI0.out)) (by (with_reducible repeat (first | apply Kd.R_alloc | apply Kd.R_drewN | apply Kd.R_drew)); exact HO111.out) (by decide)) hk (fun _ h => h.2)) (fun _ h => h.1)); have n1_ := Aside0.mk (Kd.R_mono (Kd.R_keep (IsS45.apart (show IsS45 w0 _ g s0_0 t119 from by repeat (first | (with_reducible first | exact HI0.out | apply IsS45.alloc | apply IsS45.drewN | apply IsS45.drew | apply IsS45.set_1) | exact HI0.out)) (by (with_reducible repeat (first | apply Kd.R_alloc | apply Kd.R_drewN | apply Kd.R_drew)); exact HO117.out) (by decide)) hk (fun _ h => h.2)) (fun _ h => h.1)); have n2_ := Aside0.mk (KeepBut.trans (by repeat (first | (with_reducible first | exact HK.out | apply KeepBut.set_ | apply keep_drewN | apply keep_drew | apply keep_alloc) | exact HK.out)) hk (.inl rfl)); have n3_ := Aside0.mk (hb); have n4_ := Aside0.mk (hi); clear HO111; clear HO117; clear HK; clear HB; clear HI0; have HO111 := n0_; have HO117 := n1_; have HK := n2_; have HB := n3_; have HI0 := n4_; clear n0_ n1_ n2_ n3_ n4_; (try clear hb); (try clear hb2); (try clear hk); (try clear hi)) | ((with_reducible refine gate_dst (N := 35) rfl ?_); refine Kd.R_lit Kd.string _ 9 ?hg (N := 35) ?hd (xs := ([(⟨#[]⟩ : ByteArray), rdOf ByteArray.empty y109 t112, (⟨#[100]⟩ : ByteArray), (⟨#[48, 100]⟩ : ByteArray), (⟨#[51, 44, 49, 100]⟩ : ByteArray), (rdOf ByteArray.empty y109 t112) ++ (⟨#[120]⟩ : ByteArray), (rdOf ByteArray.empty y109 t112) ++ (⟨#[115, 47, 97, 47, 98]⟩ : ByteArray), (rdOf ByteArray.empty y109 t112) ++ (⟨#[116]⟩ : ByteArray), (rdOf ByteArray.empty y109 t112) ++ (⟨#[116, 57]⟩ : ByteArray), (⟨#[49, 44, 100]⟩ : ByteArray), (⟨#[48, 49, 100]⟩ : ByteArray), (rdOf ByteArray.empty y109 t112) ++ (⟨#[100, 100]⟩ : ByteArray), (rdOf ByteArray.empty y109 t112) ++ (⟨#[115, 47, 47, 98, 47]⟩ : ByteArray), (⟨#[57, 57, 57, 57, 100]⟩ : ByteArray)] : List ByteArray)) (inner := [.string (⟨#[]⟩ : ByteArray), .string (rdOf ByteArray.empty y109 t112), .string (⟨#[100]⟩ : ByteArray), .string (⟨#[48, 100]⟩ : ByteArray), .string (⟨#[51, 44, 49, 100]⟩ : ByteArray), .string ((rdOf ByteArray.empty y109 t112) ++ (⟨#[120]⟩ : ByteArray)), .string ((rdOf ByteArray.empty y109 t112) ++ (⟨#[115, 47, 97, 47, 98]⟩ : ByteArray)), .string ((rdOf ByteArray.empty y109 t112) ++ (⟨#[116]⟩ : ByteArray)), .string ((rdOf ByteArray.empty y109 t112) ++ (⟨#[116, 57]⟩ : ByteArray)), .string (⟨#[49, 44, 100]⟩ : ByteArray), .string (⟨#[48, 49, 100]⟩ : ByteArray), .string ((rdOf ByteArray.empty y109 t112) ++ (⟨#[100, 100]⟩ : ByteArray)), .string ((rdOf ByteArray.empty y109 t112) ++ (⟨#[115, 47, 47, 98, 47]⟩ : ByteArray)), .string (⟨#[57, 57, 57, 57, 100]⟩ : ByteArray)]) (ok := fun _ => True) (okp := fun _ => True) ?hr ?hp (fun _ hk => hk) trivial (Below.refl _ _) (Nat.le_refl _) (by simp) ?_; (case hd => rfl); (case hg => rfl); (case hr => first | (go_simp; done) | (go_simp; rfl) | (simp only [i64_w]; first | (go_simp; done) | (go_simp; rfl))); (case hp => exact (Reps.one (show Kd.M Kd.string _ _ _ (⟨#[]⟩ : ByteArray) [.string (⟨#[]⟩ : ByteArray)] from rfl) (Reps.one (show Kd.M Kd.string _ _ _ (rdOf ByteArray.empty y109 t112) [.string (rdOf ByteArray.empty y109 t112)] from rfl) (Reps.one (show Kd.M Kd.string _ _ _ (⟨#[100]⟩ : ByteArray) [.string (⟨#[100]⟩ : ByteArray)] from rfl) (Reps.one (show Kd.M Kd.string _ _ _ (⟨#[48, 100]⟩ : ByteArray) [.string (⟨#[48, 100]⟩ : ByteArray)] from rfl) (Reps.one (show Kd.M Kd.string _ _ _ (⟨#[51, 44, 49, 100]⟩ : ByteArray) [.string (⟨#[51, 44, 49, 100]⟩ : ByteArray)] from rfl) (Reps.one (show Kd.M Kd.string _ _ _ ((rdOf ByteArray.empty y109 t112) ++ (⟨#[120]⟩ : ByteArray)) [.string ((rdOf ByteArray.empty y109 t112) ++ (⟨#[120]⟩ : ByteArray))] from rfl) (Reps.one (show Kd.M Kd.string _ _ _ ((rdOf ByteArray.empty y109 t112) ++ (⟨#[115, 47, 97, 47, 98]⟩ : ByteArray)) [.string ((rdOf ByteArray.empty y109 t112) ++ (⟨#[115, 47, 97, 47, 98]⟩ : ByteArray))] from rfl) (Reps.one (show Kd.M Kd.string _ _ _ ((rdOf ByteArray.empty y109 t112) ++ (⟨#[116]⟩ : ByteArray)) [.string ((rdOf ByteArray.empty y109 t112) ++ (⟨#[116]⟩ : ByteArray))] from rfl) (Reps.one (show Kd.M Kd.string _ _ _ ((rdOf ByteArray.empty y109 t112) ++ (⟨#[116, 57]⟩ : ByteArray)) [.string ((rdOf ByteArray.empty y109 t112) ++ (⟨#[116, 57]⟩ : ByteArray))] from rfl) (Reps.one (show Kd.M Kd.string _ _ _ (⟨#[49, 44, 100]⟩ : ByteArray) [.string (⟨#[49, 44, 100]⟩ : ByteArray)] from rfl) (Reps.one (show Kd.M Kd.string _ _ _ (⟨#[48, 49, 100]⟩ : ByteArray) [.string (⟨#[48, 49, 100]⟩ : ByteArray)] from rfl) (Reps.one (show Kd.M Kd.string _ _ _ ((rdOf ByteArray.empty y109 t112) ++ (⟨#[100, 100]⟩ : ByteArray)) [.string ((rdOf ByteArray.empty y109 t112) ++ (⟨#[100, 100]⟩ : ByteArray))] from rfl) (Reps.one (show Kd.M Kd.string _ _ _ ((rdOf ByteArray.empty y109 t112) ++ (⟨#[115, 47, 47, 98, 47]⟩ : ByteArray)) [.string ((rdOf ByteArray.empty y109 t112) ++ (⟨#[115, 47, 47, 98, 47]⟩ : ByteArray))] from rfl) (Reps.one (show Kd.M Kd.string _ _ _ (⟨#[57, 57, 57, 57, 100]⟩ : ByteArray) [.string (⟨#[57, 57, 57, 57, 100]⟩ : ByteArray)] from rfl) (Reps.none _ _)))))))))))))))); intro v124 w27 ho28 hb hg_ hnew_; clear hg_ hnew_; (first | rw [← Ny123.out] at ho28 | (simp only [Int.reduceToNat] at ho28; rw [← Ny123.out] at ho28)); have n0_ := Aside0.mk (Kd.R_elder' (by (with_reducible repeat (first | apply Kd.R_alloc | apply Kd.R_drewN | apply Kd.R_drew)); exact HO111.out) (Kd.R_base ho28) hb); have n1_ := Aside0.mk (Kd.R_elder' (by (with_reducible repeat (first | apply Kd.R_alloc | apply Kd.R_drewN | apply Kd.R_drew)); exact HO117.out) (Kd.R_base ho28) hb); have n2_ := Aside0.mk (Kd.R_lower (Kd.R_new' (Kd.R_new' ho28 (Kd.R_lt (by (with_reducible repeat (first | apply Kd.R_alloc | apply Kd.R_drewN | apply Kd.R_drew)); exact HO111.out))) (Kd.R_lt (by (with_reducible repeat (first | apply Kd.R_alloc | apply Kd.R_drewN | apply Kd.R_drew)); exact HO117.out))) (keep_size (w := w) (g := g) (row := none) (by repeat (first | (with_reducible first | exact HK.out | apply KeepBut.set_ | apply keep_drewN | apply keep_drew | apply keep_alloc) | exact HK.out)))); have n3_ := Aside0.mk (IsS45.below (by repeat (first | (with_reducible first | exact HI0.out | apply IsS45.alloc | apply IsS45.drewN | apply IsS45.drew | apply IsS45.set_1) | exact HI0.out)) hb); have n4_ := Aside0.mk (KeepBut.trans (by repeat (first | (with_reducible first | exact HK.out | apply KeepBut.set_ | apply keep_drewN | apply keep_drew | apply keep_alloc) | exact HK.out)) (KeepBut.of_below hb g none) (.inl rfl)); have n5_ := Aside0.mk (below_step (by repeat (first | (with_reducible first | exact HB.out | apply below_alloc | apply pw_below_drewN | apply below_drew1 | refine below_set ?_ (IsS45.ge HI0.out)) | exact HB.out)) hb); clear HO111; clear HO117; clear HI0; clear HK; clear HB; have HO111 := n0_; have HO117 := n1_; have HO125 := n2_; have HI0 := n3_; have HK := n4_; have HB := n5_; clear n0_ n1_ n2_ n3_ n4_ n5_; clear hb ho28) | ((with_reducible refine gate_callee (f := 13) rfl ?_); refine goesL_ (some 37) rfl rfl Tryd.func13 (by kernel_rfl) rfl #[.pointer (some ⟨g, 0, none⟩), .int .i64 14] rfl (by (try simp only [List.map_toArray, List.map_cons, List.map_nil]); first | done | rfl | (simp only [List.length_drop, List.length_take]; rfl)) ?_; (with_reducible refine (spec_l20Rd_pick.calls k g s0_0 t122 14 t126 t127 w0 _ ?side1 ?side2 A15.out).mono ?_); (case side1 => repeat (first | (with_reducible first | exact HI0.out | apply IsS45.alloc | apply IsS45.drewN | apply IsS45.drew | apply IsS45.set_1) | exact HI0.out)); (case side2 => repeat (first | (with_reducible first | exact HB.out | apply below_alloc | apply pw_below_drewN | apply below_drew1 | refine below_set ?_ (IsS45.ge HI0.out)) | exact HB.out)); rintro e w29 ⟨rfl, hi, hb, hk⟩; refine ⟨_, rfl, ?_⟩; have n0_ := Aside0.mk (Kd.R_mono (Kd.R_keep (IsS45.apart (show IsS45 w0 _ g s0_0 t122 from by repeat (first | (with_reducible first | exact HI0.out | apply IsS45.alloc | apply IsS45.drewN | apply IsS45.drew | apply IsS45.set_1) | exact HI0.out)) (by (with_reducible repeat (first | apply Kd.R_alloc | apply Kd.R_drewN | apply Kd.R_drew)); exact HO111.out) (by decide)) hk (fun _ h => h.2)) (fun _ h => h.1)); have n1_ := Aside0.mk (Kd.R_mono (Kd.R_keep (IsS45.apart (show IsS45 w0 _ g s0_0 t122 from by repeat (first | (with_reducible first | exact HI0.out | apply IsS45.alloc | apply IsS45.drewN | apply IsS45.drew | apply IsS45.set_1) | exact HI0.out)) (by (with_reducible repeat (first | apply Kd.R_alloc | apply Kd.R_drewN | apply Kd.R_drew)); exact HO117.out) (by decide)) hk (fun _ h => h.2)) (fun _ h => h.1)); have n2_ := Aside0.mk (Kd.R_mono (Kd.R_keep (IsS45.apart (show IsS45 w0 _ g s0_0 t122 from by repeat (first | (with_reducible first | exact HI0.out | apply IsS45.alloc | apply IsS45.drewN | apply IsS45.drew | apply IsS45.set_1) | exact HI0.out)) (by (with_reducible repeat (first | apply Kd.R_alloc | apply Kd.R_drewN | apply Kd.R_drew)); exact HO125.out) (by decide)) hk (fun _ h => h.2)) (fun _ h => h.1)); have n3_ := Aside0.mk (KeepBut.trans (by repeat (first | (with_reducible first | exact HK.out | apply KeepBut.set_ | apply keep_drewN | apply keep_drew | apply keep_alloc) | exact HK.out)) hk (.inl rfl)); have n4_ := Aside0.mk (hb); have n5_ := Aside0.mk (hi); clear HO111; clear HO117; clear HO125; clear HK; clear HB; clear HI0; have HO111 := n0_; have HO117 := n1_; have HO125 := n2_; have HK := n3_; have HB := n4_; have HI0 := n5_; clear n0_ n1_ n2_ n3_ n4_ n5_; (try clear hb); (try clear hb2); (try clear hk); (try clear hi); obtain ⟨Ao30, co30, eo30⟩ := Kd.R_slice HO125.out; subst eo30; have p128 : 0 ≤ (t126 : Int) := of_decide_eq_true (by first | (with_reducible assumption) | assumption); have q128 : t126 < (y123.length : Int) := of_decide_eq_true (by first | (with_reducible assumption) | assumption); obtain ⟨ad128, e128, hx128_0⟩ := Kd.at_string (Kd.R_reads' HO125.out).2.2 t126 p128 q128; cases e128; replace p128 := eq_true p128; replace q128 := eq_true q128))
                        go_ret
                        exact ⟨by first | rfl | (simp [errW_none, errW_some] <;> rfl) | (simp [*, errW_none, errW_some] <;> rfl), by repeat (first | (with_reducible first | exact HI0.out | apply IsS45.alloc | apply IsS45.drewN | apply IsS45.drew | apply IsS45.set_1) | exact HI0.out), by repeat (first | (with_reducible first | exact HB.out | apply below_alloc | apply pw_below_drewN | apply below_drew1 | refine below_set ?_ (IsS45.ge HI0.out)) | exact HB.out), by repeat (first | (with_reducible first | exact HK.out | apply KeepBut.set_ | apply keep_drewN | apply keep_drew | apply keep_alloc) | exact HK.out)⟩
                      · rw [if_neg c17] at H
                        exact absurd H (by simp)
                    · rw [if_neg c16] at H
                      exact absurd H (by simp)
                  · rw [if_neg c14] at H
                    exact absurd H (by simp)
                · rw [if_neg c13] at H
                  exact absurd H (by simp)
              · rw [if_neg c12] at H
                exact absurd H (by simp)
            · replace c11 := Bool.eq_false_iff.mpr c11
              subst c11
              have H1 : (some ((rdOf ByteArray.empty y109 t112) ++ (rdOf ByteArray.empty y115 t118), t122)) = some (r1, r2) := by rw [if_neg (show ¬ (false = true) by decide)] at H; exact H
              clear H
              have H := H1
              clear H1
              simp only [Option.some.injEq, Prod.mk.injEq] at H
              obtain ⟨rfl, rfl⟩ := H
              go_enter Tryd.func12, Tryd.ntmps12
              go_wp2_with (first | ((with_reducible refine gate_dst (N := 7) rfl ?_); refine Kd.R_lit Kd.string _ 9 ?hg (N := 7) ?hd (xs := ([(⟨#[49]⟩ : ByteArray), (⟨#[50]⟩ : ByteArray), (⟨#[51]⟩ : ByteArray), (⟨#[49, 44, 50]⟩ : ByteArray), (⟨#[50, 44, 51]⟩ : ByteArray), (⟨#[37]⟩ : ByteArray), (⟨#[49, 44, 49]⟩ : ByteArray)] : List ByteArray)) (inner := [.string (⟨#[49]⟩ : ByteArray), .string (⟨#[50]⟩ : ByteArray), .string (⟨#[51]⟩ : ByteArray), .string (⟨#[49, 44, 50]⟩ : ByteArray), .string (⟨#[50, 44, 51]⟩ : ByteArray), .string (⟨#[37]⟩ : ByteArray), .string (⟨#[49, 44, 49]⟩ : ByteArray)]) (ok := fun _ => True) (okp := fun _ => True) ?hr ?hp (fun _ hk => hk) trivial (Below.refl _ _) (Nat.le_refl _) (by simp) ?_; (case hd => rfl); (case hg => rfl); (case hr => first | (go_simp; done) | (go_simp; rfl) | (simp only [i64_w]; first | (go_simp; done) | (go_simp; rfl))); (case hp => exact (Reps.one (show Kd.M Kd.string _ _ _ (⟨#[49]⟩ : ByteArray) [.string (⟨#[49]⟩ : ByteArray)] from rfl) (Reps.one (show Kd.M Kd.string _ _ _ (⟨#[50]⟩ : ByteArray) [.string (⟨#[50]⟩ : ByteArray)] from rfl) (Reps.one (show Kd.M Kd.string _ _ _ (⟨#[51]⟩ : ByteArray) [.string (⟨#[51]⟩ : ByteArray)] from rfl) (Reps.one (show Kd.M Kd.string _ _ _ (⟨#[49, 44, 50]⟩ : ByteArray) [.string (⟨#[49, 44, 50]⟩ : ByteArray)] from rfl) (Reps.one (show Kd.M Kd.string _ _ _ (⟨#[50, 44, 51]⟩ : ByteArray) [.string (⟨#[50, 44, 51]⟩ : ByteArray)] from rfl) (Reps.one (show Kd.M Kd.string _ _ _ (⟨#[37]⟩ : ByteArray) [.string (⟨#[37]⟩ : ByteArray)] from rfl) (Reps.one (show Kd.M Kd.string _ _ _ (⟨#[49, 44, 49]⟩ : ByteArray) [.string (⟨#[49, 44, 49]⟩ : ByteArray)] from rfl) (Reps.none _ _))))))))); intro v110 w31 ho32 hb hg_ hnew_; clear hg_ hnew_; (first | rw [← Ny109.out] at ho32 | (simp only [Int.reduceToNat] at ho32; rw [← Ny109.out] at ho32)); have n0_ := Aside0.mk (Kd.R_lower ho32 (keep_size (w := w) (g := g) (row := none) (by repeat (first | (with_reducible first | exact HK.out | apply KeepBut.set_ | apply keep_drewN | apply keep_drew | apply keep_alloc) | exact HK.out)))); have n1_ := Aside0.mk (IsS45.below (by repeat (first | (with_reducible first | exact HI0.out | apply IsS45.alloc | apply IsS45.drewN | apply IsS45.drew | apply IsS45.set_1) | exact HI0.out)) hb); have n2_ := Aside0.mk (KeepBut.trans (by repeat (first | (with_reducible first | exact HK.out | apply KeepBut.set_ | apply keep_drewN | apply keep_drew | apply keep_alloc) | exact HK.out)) (KeepBut.of_below hb g none) (.inl rfl)); have n3_ := Aside0.mk (below_step (by repeat (first | (with_reducible first | exact HB.out | apply below_alloc | apply pw_below_drewN | apply below_drew1 | refine below_set ?_ (IsS45.ge HI0.out)) | exact HB.out)) hb); clear HI0; clear HK; clear HB; have HO111 := n0_; have HI0 := n1_; have HK := n2_; have HB := n3_; clear n0_ n1_ n2_ n3_; clear hb ho32) | ((with_reducible refine gate_callee (f := 13) rfl ?_); refine goesL_ (some 9) rfl rfl Tryd.func13 (by kernel_rfl) rfl #[.pointer (some ⟨g, 0, none⟩), .int .i64 7] rfl (by (try simp only [List.map_toArray, List.map_cons, List.map_nil]); first | done | rfl | (simp only [List.length_drop, List.length_take]; rfl)) ?_; (with_reducible refine (spec_l20Rd_pick.calls k g s0_0 s0_1 7 t112 t113 w0 _ ?side1 ?side2 A3.out).mono ?_); (case side1 => repeat (first | (with_reducible first | exact HI0.out | apply IsS45.alloc | apply IsS45.drewN | apply IsS45.drew | apply IsS45.set_1) | exact HI0.out)); (case side2 => repeat (first | (with_reducible first | exact HB.out | apply below_alloc | apply pw_below_drewN | apply below_drew1 | refine below_set ?_ (IsS45.ge HI0.out)) | exact HB.out)); rintro e w33 ⟨rfl, hi, hb, hk⟩; refine ⟨_, rfl, ?_⟩; have n0_ := Aside0.mk (Kd.R_mono (Kd.R_keep (IsS45.apart (show IsS45 w0 _ g s0_0 s0_1 from by repeat (first | (with_reducible first | exact HI0.out | apply IsS45.alloc | apply IsS45.drewN | apply IsS45.drew | apply IsS45.set_1) | exact HI0.out)) (by (with_reducible repeat (first | apply Kd.R_alloc | apply Kd.R_drewN | apply Kd.R_drew)); exact HO111.out) (by decide)) hk (fun _ h => h.2)) (fun _ h => h.1)); have n1_ := Aside0.mk (KeepBut.trans (by repeat (first | (with_reducible first | exact HK.out | apply KeepBut.set_ | apply keep_drewN | apply keep_drew | apply keep_alloc) | exact HK.out)) hk (.inl rfl)); have n2_ := Aside0.mk (hb); have n3_ := Aside0.mk (hi); clear HO111; clear HK; clear HB; clear HI0; have HO111 := n0_; have HK := n1_; have HB := n2_; have HI0 := n3_; clear n0_ n1_ n2_ n3_; (try clear hb); (try clear hb2); (try clear hk); (try clear hi); obtain ⟨Ao34, co34, eo34⟩ := Kd.R_slice HO111.out; subst eo34; have p114 : 0 ≤ (t112 : Int) := of_decide_eq_true (by first | (with_reducible assumption) | assumption); have q114 : t112 < (y109.length : Int) := of_decide_eq_true (by first | (with_reducible assumption) | assumption); obtain ⟨ad114, e114, hx114_0⟩ := Kd.at_string (Kd.R_reads' HO111.out).2.2 t112 p114 q114; cases e114; replace p114 := eq_true p114; replace q114 := eq_true q114) | ((with_reducible refine gate_dst (N := 13) rfl ?_); refine Kd.R_lit Kd.string _ 9 ?hg (N := 13) ?hd (xs := ([(⟨#[100]⟩ : ByteArray), (⟨#[116, 48]⟩ : ByteArray), (⟨#[116, 49]⟩ : ByteArray), (⟨#[116, 50]⟩ : ByteArray), (⟨#[115, 47, 97, 47, 98, 47]⟩ : ByteArray), (⟨#[115, 47, 97, 47, 47]⟩ : ByteArray), (⟨#[115, 47, 97, 98, 47, 120, 32, 121, 47]⟩ : ByteArray), (⟨#[62]⟩ : ByteArray), (⟨#[60]⟩ : ByteArray), (⟨#[60]⟩ : ByteArray)] : List ByteArray)) (inner := [.string (⟨#[100]⟩ : ByteArray), .string (⟨#[116, 48]⟩ : ByteArray), .string (⟨#[116, 49]⟩ : ByteArray), .string (⟨#[116, 50]⟩ : ByteArray), .string (⟨#[115, 47, 97, 47, 98, 47]⟩ : ByteArray), .string (⟨#[115, 47, 97, 47, 47]⟩ : ByteArray), .string (⟨#[115, 47, 97, 98, 47, 120, 32, 121, 47]⟩ : ByteArray), .string (⟨#[62]⟩ : ByteArray), .string (⟨#[60]⟩ : ByteArray), .string (⟨#[60]⟩ : ByteArray)]) (ok := fun _ => True) (okp := fun _ => True) ?hr ?hp (fun _ hk => hk) trivial (Below.refl _ _) (Nat.le_refl _) (by simp) ?_; (case hd => rfl); (case hg => rfl); (case hr => first | (go_simp; done) | (go_simp; rfl) | (simp only [i64_w]; first | (go_simp; done) | (go_simp; rfl))); (case hp => exact (Reps.one (show Kd.M Kd.string _ _ _ (⟨#[100]⟩ : ByteArray) [.string (⟨#[100]⟩ : ByteArray)] from rfl) (Reps.one (show Kd.M Kd.string _ _ _ (⟨#[116, 48]⟩ : ByteArray) [.string (⟨#[116, 48]⟩ : ByteArray)] from rfl) (Reps.one (show Kd.M Kd.string _ _ _ (⟨#[116, 49]⟩ : ByteArray) [.string (⟨#[116, 49]⟩ : ByteArray)] from rfl) (Reps.one (show Kd.M Kd.string _ _ _ (⟨#[116, 50]⟩ : ByteArray) [.string (⟨#[116, 50]⟩ : ByteArray)] from rfl) (Reps.one (show Kd.M Kd.string _ _ _ (⟨#[115, 47, 97, 47, 98, 47]⟩ : ByteArray) [.string (⟨#[115, 47, 97, 47, 98, 47]⟩ : ByteArray)] from rfl) (Reps.one (show Kd.M Kd.string _ _ _ (⟨#[115, 47, 97, 47, 47]⟩ : ByteArray) [.string (⟨#[115, 47, 97, 47, 47]⟩ : ByteArray)] from rfl) (Reps.one (show Kd.M Kd.string _ _ _ (⟨#[115, 47, 97, 98, 47, 120, 32, 121, 47]⟩ : ByteArray) [.string (⟨#[115, 47, 97, 98, 47, 120, 32, 121, 47]⟩ : ByteArray)] from rfl) (Reps.one (show Kd.M Kd.string _ _ _ (⟨#[62]⟩ : ByteArray) [.string (⟨#[62]⟩ : ByteArray)] from rfl) (Reps.one (show Kd.M Kd.string _ _ _ (⟨#[60]⟩ : ByteArray) [.string (⟨#[60]⟩ : ByteArray)] from rfl) (Reps.one (show Kd.M Kd.string _ _ _ (⟨#[60]⟩ : ByteArray) [.string (⟨#[60]⟩ : ByteArray)] from rfl) (Reps.none _ _)))))))))))); intro v116 w35 ho36 hb hg_ hnew_; clear hg_ hnew_; (first | rw [← Ny115.out] at ho36 | (simp only [Int.reduceToNat] at ho36; rw [← Ny115.out] at ho36)); have n0_ := Aside0.mk (Kd.R_elder' (by (with_reducible repeat (first | apply Kd.R_alloc | apply Kd.R_drewN | apply Kd.R_drew)); exact HO111.out) (Kd.R_base ho36) hb); have n1_ := Aside0.mk (Kd.R_lower (Kd.R_new' ho36 (Kd.R_lt (by (with_reducible repeat (first | apply Kd.R_alloc | apply Kd.R_drewN | apply Kd.R_drew)); exact HO111.out))) (keep_size (w := w) (g := g) (row := none) (by repeat (first | (with_reducible first | exact HK.out | apply KeepBut.set_ | apply keep_drewN | apply keep_drew | apply keep_alloc) | exact HK.out)))); have n2_ := Aside0.mk (IsS45.below (by repeat (first | (with_reducible first | exact HI0.out | apply IsS45.alloc | apply IsS45.drewN | apply IsS45.drew | apply IsS45.set_1) | exact HI0.out)) hb); have n3_ := Aside0.mk (KeepBut.trans (by repeat (first | (with_reducible first | exact HK.out | apply KeepBut.set_ | apply keep_drewN | apply keep_drew | apply keep_alloc) | exact HK.out)) (KeepBut.of_below hb g none) (.inl rfl)); have n4_ := Aside0.mk (below_step (by repeat (first | (with_reducible first | exact HB.out | apply below_alloc | apply pw_below_drewN | apply below_drew1 | refine below_set ?_ (IsS45.ge HI0.out)) | exact HB.out)) hb); clear HO111; clear HI0; clear HK; clear HB; have HO111 := n0_; have HO117 := n1_; have HI0 := n2_; have HK := n3_; have HB := n4_; clear n0_ n1_ n2_ n3_ n4_; clear hb ho36) | ((with_reducible refine gate_callee (f := 13) rfl ?_); refine goesL_ (some 15) rfl rfl Tryd.func13 (by kernel_rfl) rfl #[.pointer (some ⟨g, 0, none⟩), .int .i64 10] rfl (by (try simp only [List.map_toArray, List.map_cons, List.map_nil]); first | done | rfl | (simp only [List.length_drop, List.length_take]; rfl)) ?_; (with_reducible refine (spec_l20Rd_pick.calls k g s0_0 t113 10 t118 t119 w0 _ ?side1 ?side2 A6.out).mono ?_); (case side1 => repeat (first | (with_reducible first | exact HI0.out | apply IsS45.alloc | apply IsS45.drewN | apply IsS45.drew | apply IsS45.set_1) | exact HI0.out)); (case side2 => repeat (first | (with_reducible first | exact HB.out | apply below_alloc | apply pw_below_drewN | apply below_drew1 | refine below_set ?_ (IsS45.ge HI0.out)) | exact HB.out)); rintro e w37 ⟨rfl, hi, hb, hk⟩; refine ⟨_, rfl, ?_⟩; have n0_ := Aside0.mk (Kd.R_mono (Kd.R_keep (IsS45.apart (show IsS45 w0 _ g s0_0 t113 from by repeat (first | (with_reducible first | exact HI0.out | apply IsS45.alloc | apply IsS45.drewN | apply IsS45.drew | apply IsS45.set_1) | exact HI0.out)) (by (with_reducible repeat (first | apply Kd.R_alloc | apply Kd.R_drewN | apply Kd.R_drew)); exact HO111.out) (by decide)) hk (fun _ h => h.2)) (fun _ h => h.1)); have n1_ := Aside0.mk (Kd.R_mono (Kd.R_keep (IsS45.apart (show IsS45 w0 _ g s0_0 t113 from by repeat (first | (with_reducible first | exact HI0.out | apply IsS45.alloc | apply IsS45.drewN | apply IsS45.drew | apply IsS45.set_1) | exact HI0.out)) (by (with_reducible repeat (first | apply Kd.R_alloc | apply Kd.R_drewN | apply Kd.R_drew)); exact HO117.out) (by decide)) hk (fun _ h => h.2)) (fun _ h => h.1)); have n2_ := Aside0.mk (KeepBut.trans (by repeat (first | (with_reducible first | exact HK.out | apply KeepBut.set_ | apply keep_drewN | apply keep_drew | apply keep_alloc) | exact HK.out)) hk (.inl rfl)); have n3_ := Aside0.mk (hb); have n4_ := Aside0.mk (hi); clear HO111; clear HO117; clear HK; clear HB; clear HI0; have HO111 := n0_; have HO117 := n1_; have HK := n2_; have HB := n3_; have HI0 := n4_; clear n0_ n1_ n2_ n3_ n4_; (try clear hb); (try clear hb2); (try clear hk); (try clear hi); obtain ⟨Ao38, co38, eo38⟩ := Kd.R_slice HO117.out; subst eo38; have p120 : 0 ≤ (t118 : Int) := of_decide_eq_true (by first | (with_reducible assumption) | assumption); have q120 : t118 < (y115.length : Int) := of_decide_eq_true (by first | (with_reducible assumption) | assumption); obtain ⟨ad120, e120, hx120_0⟩ := Kd.at_string (Kd.R_reads' HO117.out).2.2 t118 p120 q120; cases e120; replace p120 := eq_true p120; replace q120 := eq_true q120) | ((with_reducible refine gate_callee (f := 24) rfl ?_); refine goesL_ (some 21) rfl rfl Tryd.func24 (by kernel_rfl) rfl #[.pointer (some ⟨g, 0, none⟩), .int .i64 a1] rfl (by (try simp only [List.map_toArray, List.map_cons, List.map_nil]); first | done | rfl | (simp only [List.length_drop, List.length_take]; rfl)) ?_; (with_reducible refine (spec_l20Rd_odd.calls k g s0_0 t119 a1 false t122 w0 _ ?side1 ?side2 A10.out).mono ?_); (case side1 => repeat (first | (with_reducible first | exact HI0.out | apply IsS45.alloc | apply IsS45.drewN | apply IsS45.drew | apply IsS45.set_1) | exact HI0.out)); (case side2 => repeat (first | (with_reducible first | exact HB.out | apply below_alloc | apply pw_below_drewN | apply below_drew1 | refine below_set ?_ (IsS45.ge HI0.out)) | exact HB.out)); rintro e w39 ⟨rfl, hi, hb, hk⟩; refine ⟨_, rfl, ?_⟩; have n0_ := Aside0.mk (Kd.R_mono (Kd.R_keep (IsS45.apart (show IsS45 w0 _ g s0_0 t119 from by repeat (first | (with_reducible first | exact HI0.out | apply IsS45.alloc | apply IsS45.drewN | apply IsS45.drew | apply IsS45.set_1) | exact HI0.out)) (by (with_reducible repeat (first | apply Kd.R_alloc | apply Kd.R_drewN | apply Kd.R_drew)); exact HO111.out) (by decide)) hk (fun _ h => h.2)) (fun _ h => h.1)); have n1_ := Aside0.mk (Kd.R_mono (Kd.R_keep (IsS45.apart (show IsS45 w0 _ g s0_0 t119 from by repeat (first | (with_reducible first | exact HI0.out | apply IsS45.alloc | apply IsS45.drewN | apply IsS45.drew | apply IsS45.set_1) | exact HI0.out)) (by (with_reducible repeat (first | apply Kd.R_alloc | apply Kd.R_drewN | apply Kd.R_drew)); exact HO117.out) (by decide)) hk (fun _ h => h.2)) (fun _ h => h.1)); have n2_ := Aside0.mk (KeepBut.trans (by repeat (first | (with_reducible first | exact HK.out | apply KeepBut.set_ | apply keep_drewN | apply keep_drew | apply keep_alloc) | exact HK.out)) hk (.inl rfl)); have n3_ := Aside0.mk (hb); have n4_ := Aside0.mk (hi); clear HO111; clear HO117; clear HK; clear HB; clear HI0; have HO111 := n0_; have HO117 := n1_; have HK := n2_; have HB := n3_; have HI0 := n4_; clear n0_ n1_ n2_ n3_ n4_; (try clear hb); (try clear hb2); (try clear hk); (try clear hi)))
              go_ret
              exact ⟨by first | rfl | (simp [errW_none, errW_some] <;> rfl) | (simp [*, errW_none, errW_some] <;> rfl), by repeat (first | (with_reducible first | exact HI0.out | apply IsS45.alloc | apply IsS45.drewN | apply IsS45.drew | apply IsS45.set_1) | exact HI0.out), by repeat (first | (with_reducible first | exact HB.out | apply below_alloc | apply pw_below_drewN | apply below_drew1 | refine below_set ?_ (IsS45.ge HI0.out)) | exact HB.out), by repeat (first | (with_reducible first | exact HK.out | apply KeepBut.set_ | apply keep_drewN | apply keep_drew | apply keep_alloc) | exact HK.out)⟩
          · rw [if_neg c9] at H
            exact absurd H (by simp)
        · rw [if_neg c8] at H
          exact absurd H (by simp)
      · rw [if_neg c7] at H
        exact absurd H (by simp)
    · rw [if_neg c5] at H
      exact absurd H (by simp)
  · rw [if_neg c4] at H
    exact absurd H (by simp)

/-! ### spec_DrawReadRange: function 5 -/
def spec_DrawReadRange.f (k : Nat) (l0 : List Int) : Option (ByteArray × Int) := (spec_l20Open.f l0).bind fun bt129 => ((spec_l20Command.f k bt129.1 bt129.2 4).bind fun bt132 => ((spec_l20Rd_pick.f k bt129.1 bt132.2 6).bind fun bt134 => ((some (([wrap64 (1 + bt134.1), 0, 122] : List Int) : List Int)).bind fun y136 => ((some (([0, 0, 0, 0, 0, 1, 2] : List Int) : List Int)).bind fun y139 => ((spec_l20Rd_pick.f k bt129.1 bt134.2 7).bind fun bt142 => (if 0 ≤ bt142.1 then (if bt142.1 < (y139.length : Int) then (if 0 ≤ (rd y139 bt142.1) then (if (rd y139 bt142.1) < (y136.length : Int) then (some (bt132.1, rd y136 (rd y139 bt142.1))) else (none)) else (none)) else (none)) else (none)))))))
theorem spec_DrawReadRange.mono : ∀ a0 k, LeO (spec_DrawReadRange.f k a0) (spec_DrawReadRange.f (k + 1) a0) := by
  intro a0 k
  unfold spec_DrawReadRange.f
  repeat' first
      | (with_reducible exact spec_l20Command.mono _ _ _ _)
      | (with_reducible exact spec_l20Rd_pick.mono _ _ _ _)
      | (with_reducible exact LeO.refl _)
      | (with_reducible exact LeO.none _)
      | (with_reducible refine LeO.ite ?_ ?_)
      | (with_reducible refine LeO.bind ?_ (fun _ => ?_))
      | exact spec_l20Command.mono _ _ _ _
      | exact spec_l20Rd_pick.mono _ _ _ _
      | exact LeO.none _
      | refine LeO.ite ?_ ?_
      | refine LeO.bind ?_ (fun _ => ?_)
def spec_DrawReadRange.T3 : Bool × List (List Nat × List Nat) := (true, [([], []), ([], []), ([1], [1]), ([2], [2]), ([3], [3]), ([], []), ([], []), ([6, 2], [6]), ([5, 7], [5, 7]), ([8], [8]), ([4, 9], [4, 9]), ([10], [10]), ([0, 7, 0], [0]), ([11, 12, 0, 1, 2, 3, 4, 5, 6, 7, 8, 9, 10, 11, 12], [11])])
def spec_DrawReadRange.B3 : List Nat := [0, 0, 2, 6, 14, 0, 0, 70, 230, 486, 1022, 2046, 199, 8191]
theorem spec_DrawReadRange.tab3 : rtab .any (opsOf Tryd.f5 3) = spec_DrawReadRange.T3 := by kernel_rfl
theorem spec_DrawReadRange.bits3 : waitsOk spec_DrawReadRange.T3.2 spec_DrawReadRange.B3 = true := by kernel_rfl
set_option maxHeartbeats 8000000 in
set_option maxRecDepth 100000 in
theorem spec_DrawReadRange.calls (k : Nat) (A0 : Option Addr) (c0 : Nat) (l0 : List Int) (r1 : ByteArray) (r2 : Int) (w : World) (hr0 : Kd.C (Kd.int .u8) w A0 l0.length l0) (hc0 : l0.length ≤ c0) (h : spec_DrawReadRange.f k l0 = some (r1, r2)) :
    Calls Tryd.prog 5 #[.slice A0 l0.length c0] w fun e w' => e = .returned (.tuple #[.string r1, .int .i64 r2]) ∧ Below w.heap.size w w' := by
  have HR0 := Aside0.mk hr0
  have HC0 := Aside0.mk hc0
  clear hr0 hc0
  have HB := Aside0.mk (Below.refl w.heap.size w)
  have H : ((spec_l20Open.f l0).bind fun bt129 => ((spec_l20Command.f k bt129.1 bt129.2 4).bind fun bt132 => ((spec_l20Rd_pick.f k bt129.1 bt132.2 6).bind fun bt134 => ((some (([wrap64 (1 + bt134.1), 0, 122] : List Int) : List Int)).bind fun y136 => ((some (([0, 0, 0, 0, 0, 1, 2] : List Int) : List Int)).bind fun y139 => ((spec_l20Rd_pick.f k bt129.1 bt134.2 7).bind fun bt142 => (if 0 ≤ bt142.1 then (if bt142.1 < (y139.length : Int) then (if 0 ≤ (rd y139 bt142.1) then (if (rd y139 bt142.1) < (y136.length : Int) then (some (bt132.1, rd y136 (rd y139 bt142.1))) else (none)) else (none)) else (none)) else (none)))))))) = some (r1, r2) := h
  clear h
  replace H := Option.bind_eq_some_iff.mp H
  obtain ⟨⟨t129, t130⟩, A20, H⟩ := H
  replace H : ((spec_l20Command.f k t129 t130 4).bind fun bt132 => ((spec_l20Rd_pick.f k t129 bt132.2 6).bind fun bt134 => ((some (([wrap64 (1 + bt134.1), 0, 122] : List Int) : List Int)).bind fun y136 => ((some (([0, 0, 0, 0, 0, 1, 2] : List Int) : List Int)).bind fun y139 => ((spec_l20Rd_pick.f k t129 bt134.2 7).bind fun bt142 => (if 0 ≤ bt142.1 then (if bt142.1 < (y139.length : Int) then (if 0 ≤ (rd y139 bt142.1) then (if (rd y139 bt142.1) < (y136.length : Int) then (some (bt132.1, rd y136 (rd y139 bt142.1))) else (none)) else (none)) else (none)) else (none))))))) = some (r1, r2) := H
  have A2 := Aside0.mk A20
  clear A20
  replace H := Option.bind_eq_some_iff.mp H
  obtain ⟨⟨t132, t133⟩, A30, H⟩ := H
  replace H : ((spec_l20Rd_pick.f k t129 t133 6).bind fun bt134 => ((some (([wrap64 (1 + bt134.1), 0, 122] : List Int) : List Int)).bind fun y136 => ((some (([0, 0, 0, 0, 0, 1, 2] : List Int) : List Int)).bind fun y139 => ((spec_l20Rd_pick.f k t129 bt134.2 7).bind fun bt142 => (if 0 ≤ bt142.1 then (if bt142.1 < (y139.length : Int) then (if 0 ≤ (rd y139 bt142.1) then (if (rd y139 bt142.1) < (y136.length : Int) then (some (t132, rd y136 (rd y139 bt142.1))) else (none)) else (none)) else (none)) else (none)))))) = some (r1, r2) := H
  have A3 := Aside0.mk A30
  clear A30
  replace H := Option.bind_eq_some_iff.mp H
  obtain ⟨⟨t134, t135⟩, A40, H⟩ := H
  replace H : ((some (([wrap64 (1 + t134), 0, 122] : List Int) : List Int)).bind fun y136 => ((some (([0, 0, 0, 0, 0, 1, 2] : List Int) : List Int)).bind fun y139 => ((spec_l20Rd_pick.f k t129 t135 7).bind fun bt142 => (if 0 ≤ bt142.1 then (if bt142.1 < (y139.length : Int) then (if 0 ≤ (rd y139 bt142.1) then (if (rd y139 bt142.1) < (y136.length : Int) then (some (t132, rd y136 (rd y139 bt142.1))) else (none)) else (none)) else (none)) else (none))))) = some (r1, r2) := H
  have A4 := Aside0.mk A40
  clear A40
  obtain ⟨y136, hy136⟩ : ∃ y_ : List Int, y_ = (([wrap64 (1 + t134), 0, 122] : List Int)) := ⟨_, rfl⟩
  replace H : ((some (([0, 0, 0, 0, 0, 1, 2] : List Int) : List Int)).bind fun y139 => ((spec_l20Rd_pick.f k t129 t135 7).bind fun bt142 => (if 0 ≤ bt142.1 then (if bt142.1 < (y139.length : Int) then (if 0 ≤ (rd y139 bt142.1) then (if (rd y139 bt142.1) < (y136.length : Int) then (some (t132, rd y136 (rd y139 bt142.1))) else (none)) else (none)) else (none)) else (none)))) = some (r1, r2) := by first | (rw [hy136]; with_reducible exact H) | (have H2_ := (Option.bind_some _ _).symm.trans H; rw [hy136]; with_reducible exact H2_) | (have H2_ := (Option.bind_some _ _).symm.trans H; with_reducible exact H2_) | with_reducible exact H | (rw [hy136]; exact H) | exact H
  have Ny136 := Aside0.mk hy136
  clear hy136
  obtain ⟨y139, hy139⟩ : ∃ y_ : List Int, y_ = (([0, 0, 0, 0, 0, 1, 2] : List Int)) := ⟨_, rfl⟩
  replace H : ((spec_l20Rd_pick.f k t129 t135 7).bind fun bt142 => (if 0 ≤ bt142.1 then (if bt142.1 < (y139.length : Int) then (if 0 ≤ (rd y139 bt142.1) then (if (rd y139 bt142.1) < (y136.length : Int) then (some (t132, rd y136 (rd y139 bt142.1))) else (none)) else (none)) else (none)) else (none))) = some (r1, r2) := by first | (rw [hy139]; with_reducible exact H) | (have H2_ := (Option.bind_some _ _).symm.trans H; rw [hy139]; with_reducible exact H2_) | (have H2_ := (Option.bind_some _ _).symm.trans H; with_reducible exact H2_) | with_reducible exact H | (rw [hy139]; exact H) | exact H
  have Ny139 := Aside0.mk hy139
  clear hy139
  replace H := Option.bind_eq_some_iff.mp H
  obtain ⟨⟨t142, t143⟩, A50, H⟩ := H
  replace H : (if 0 ≤ t142 then (if t142 < (y139.length : Int) then (if 0 ≤ (rd y139 t142) then (if (rd y139 t142) < (y136.length : Int) then (some (t132, rd y136 (rd y139 t142))) else (none)) else (none)) else (none)) else (none)) = some (r1, r2) := H
  have A5 := Aside0.mk A50
  clear A50
  by_cases c6 : 0 ≤ t142
  · rw [if_pos c6] at H
    have c6b0 : decide (0 ≤ t142) = true := decide_eq_true c6
    clear c6
    by_cases c7 : t142 < (y139.length : Int)
    · rw [if_pos c7] at H
      have c7b0 : decide (t142 < (y139.length : Int)) = true := decide_eq_true c7
      clear c7
      by_cases c8 : 0 ≤ (rd y139 t142)
      · rw [if_pos c8] at H
        have c8b0 : decide (0 ≤ (rd y139 t142)) = true := decide_eq_true c8
        clear c8
        by_cases c9 : (rd y139 t142) < (y136.length : Int)
        · rw [if_pos c9] at H
          have c9b0 : decide ((rd y139 t142) < (y136.length : Int)) = true := decide_eq_true c9
          clear c9
          simp only [Option.some.injEq, Prod.mk.injEq] at H
          obtain ⟨rfl, rfl⟩ := H
          go_enter Tryd.func5, Tryd.ntmps5
          try go_wp2_with (first | ((with_reducible refine gate_callee (f := 11) rfl ?_); refine goesL_ (some 7) rfl rfl Tryd.func11 (by kernel_rfl) rfl #[.slice A0 l0.length c0] rfl (by (try simp only [List.map_toArray, List.map_cons, List.map_nil]); first | done | rfl | (simp only [List.length_drop, List.length_take]; rfl)) ?_; (with_reducible refine (spec_l20Open.calls _ _ l0 t129 t130 w _ ?side1 ?side2 ?side3 A2.out).mono ?_); (case side1 => repeat (first | (with_reducible first | exact HB.out | apply below_alloc | apply pw_below_drewN | apply below_drew1) | exact HB.out)); (case side2 => exact HR0.out); (case side3 => exact HC0.out); rintro e w10 ⟨g131, rfl, hi, hb, hb2⟩; refine ⟨_, rfl, ?_⟩; have n0_ := Aside0.mk (hb); have n1_ := Aside0.mk (hi); clear HB; have HB := n0_; have HI131 := n1_; clear n0_ n1_; (try clear hb); (try clear hb2); (try clear hk); (try clear hi)) | ((with_reducible refine gate_callee (f := 12) rfl ?_); refine goesL_ (some 9) rfl rfl Tryd.func12 (by kernel_rfl) rfl #[.pointer (some ⟨g131, 0, none⟩), .int .i64 4] rfl (by (try simp only [List.map_toArray, List.map_cons, List.map_nil]); first | done | rfl | (simp only [List.length_drop, List.length_take]; rfl)) ?_; (with_reducible refine (spec_l20Command.calls k g131 t129 t130 4 t132 t133 w _ ?side1 ?side2 A3.out).mono ?_); (case side1 => repeat (first | (with_reducible first | exact HI131.out | apply IsS45.alloc | apply IsS45.drewN | apply IsS45.drew | apply IsS45.set_1) | exact HI131.out)); (case side2 => repeat (first | (with_reducible first | exact HB.out | apply below_alloc | apply pw_below_drewN | apply below_drew1 | refine below_set ?_ (IsS45.ge HI131.out)) | exact HB.out)); rintro e w11 ⟨rfl, hi, hb, hk⟩; refine ⟨_, rfl, ?_⟩; have n0_ := Aside0.mk (hb); have n1_ := Aside0.mk (hi); clear HB; clear HI131; have HB := n0_; have HI131 := n1_; clear n0_ n1_; (try clear hb); (try clear hb2); (try clear hk); (try clear hi)))
          have pi144 : (0 ≤ (t142 : Int)) = True := eq_true (of_decide_eq_true (by first | (with_reducible assumption) | assumption))
          have qi144 : (t142 < (y139.length : Int)) = True := eq_true (of_decide_eq_true (by first | (with_reducible assumption) | assumption))
          have pi145 : (0 ≤ ((rd y139 t142) : Int)) = True := eq_true (of_decide_eq_true (by first | (with_reducible assumption) | assumption))
          have qi145 : ((rd y139 t142) < (y136.length : Int)) = True := eq_true (of_decide_eq_true (by first | (with_reducible assumption) | assumption))
          have n0_ := Aside0.mk (IsS45.drew HI131.out)
          have n1_ := Aside0.mk (below_drew1 HB.out)
          clear HI131
          clear HB
          have HI131 := n0_
          have HB := n1_
          clear n0_ n1_
          refine start_ (n := 14) (S := fun w' => True) (ds := []) #[false, false, false, false, false, false, false, false, false, false, false, false, false, false] (by kernel_rfl) rfl rfl trivial (fun hHeld => ?_); refine with_tabW spec_DrawReadRange.tab3 spec_DrawReadRange.bits3 (fun HT_ HW_ => ?_)
          generalize w11.drew = w12 at HI131 HB hHeld ⊢
          refine pure_ (i := 0) (N := some 10) (v := ?_) (a' := ?_) #[true, false, false, false, false, false, false, false, false, false, false, false, false, false] rfl rfl (any_of HT_.out (by kernel_rfl)) (fun _ _ _ h => h) (Or.inl ⟨by rfl, ?_⟩) ?_ ?_
          rotate_left
          · intro w'
            go_simp
            with_reducible rfl
          rotate_left
          · simp only [Act.put, List.setIfInBounds_toArray, List.set_cons_zero, List.set_cons_succ, i64_w, i32_w]
            rfl
          refine pure_ (i := 1) (N := some 11) (v := ?_) (a' := ?_) #[true, true, false, false, false, false, false, false, false, false, false, false, false, false] rfl rfl (any_of HT_.out (by kernel_rfl)) (fun _ _ _ h => h) (Or.inl ⟨by rfl, ?_⟩) ?_ ?_
          rotate_left
          · intro w'
            go_simp
            with_reducible rfl
          rotate_left
          · simp only [Act.put, List.setIfInBounds_toArray, List.set_cons_zero, List.set_cons_succ, i64_w, i32_w]
            rfl
          refine pure_ (i := 6) (N := some 16) (v := ?_) (a' := ?_) #[true, true, false, false, false, false, true, false, false, false, false, false, false, false] rfl rfl (any_of HT_.out (by kernel_rfl)) (fun _ _ _ h => h) (Or.inl ⟨by rfl, ?_⟩) ?_ ?_
          rotate_left
          · intro w'
            go_simp
            with_reducible rfl
          rotate_left
          · simp only [Act.put, List.setIfInBounds_toArray, List.set_cons_zero, List.set_cons_succ, i64_w, i32_w]
            rfl
          refine inv_at [2, 3, 4, 5, 7, 8, 9, 10, 11, 12, 13] (fun a0_ b a w' => ∃ (v137 : Value) (adz_v137 : Addr) (v140 : Value) (adz_v140 : Addr) (m8_ : Value) (m10_ : Value), a = putSel a0_ b [(2, 12, .int .i64 t134), (3, 13, .int .i64 (wrap64 (1 + t134))), (4, 14, v137), (5, 15, v140), (7, 17, .int .i64 t142), (8, 18, m8_), (9, 19, .int .i64 (rd y139 t142)), (10, 20, m10_), (11, 21, .int .i64 (rd y136 (rd y139 t142))), (12, 2, .string t132), (13, 3, .int .i64 (rd y136 (rd y139 t142)))] ∧ (b 2 = false → IsS45 w w' g131 t129 t133) ∧ (Below w.heap.size w w') ∧ (b 2 = true → b 7 = false → IsS45 w w' g131 t129 t135) ∧ (b 4 = true → Kd.R (Kd.int .i64) 3 w' w.heap.size (fun _ => True) v137 y136) ∧ (b 4 = true → ∃ c_, (v137 : Value) = .slice (some adz_v137) y136.length c_) ∧ (b 5 = true → Kd.R (Kd.int .i64) 3 w' w.heap.size (fun _ => True) v140 y139) ∧ (b 5 = true → ∃ c_, (v140 : Value) = .slice (some adz_v140) y139.length c_) ∧ (b 7 = true → IsS45 w w' g131 t129 t143) ∧ (b 8 = true → (m8_ : Value) = .pointer (some (adz_v140.add (t142).toNat))) ∧ (b 10 = true → (m10_ : Value) = .pointer (some (adz_v137.add ((rd y139 t142)).toNat)))) HT_.out HW_.out (by kernel_rfl) (by kernel_rfl) ?_ ?_ ?_
          · exact ⟨.bool false, ⟨0, 0, none⟩, .bool false, ⟨0, 0, none⟩, .bool false, .bool false, by simp only [putSel, Bool.false_eq_true, if_false], fun _ => HI131.out, HB.out, fun h_ => absurd h_ (by decide), fun h_ => absurd h_ (by decide), fun h_ => absurd h_ (by decide), fun h_ => absurd h_ (by decide), fun h_ => absurd h_ (by decide), fun h_ => absurd h_ (by decide), fun h_ => absurd h_ (by decide), fun h_ => absurd h_ (by decide)⟩
          · skip
            clear HB HI131
            refine steps_cons ?_ ?_
            · rintro b a w' ⟨v137, adz_v137, v140, adz_v140, m8_, m10_, ha, Q_HI131, Q_HB, Q_HI131_e2, Q_HO138, Q_HA_HO138, Q_HO141, Q_HA_HO141, Q_HI131_e7, Q_X8_, Q_X10_⟩ hb_ hon hoff
              refine ⟨_, rfl, fun K hK => ?_⟩
              have e11 : a.tmps[11]? = some (.pointer (some ⟨g131, 0, none⟩)) := by rw [ha]; exact (putSel_off rfl).trans rfl
              replace ha := Aside0.mk ha
              have HI131 := Aside0.mk (Q_HI131 hb_)
              have HB := Aside0.mk Q_HB
              refine goes_ Tryd.func13 (by kernel_rfl) rfl #[.pointer (some ⟨g131, 0, none⟩), .int .i64 6] (by rfl) rfl rfl (by first | (simp only [List.map_toArray, List.map_cons, List.map_nil, Act.eval, Array.getD_eq_getD_getElem?, Option.getD_some, e11]; done) | (simp only [List.map_toArray, List.map_cons, List.map_nil, Act.eval, Array.getD_eq_getD_getElem?, Option.getD_some, e11]; rfl)) ?_
              with_reducible refine (spec_l20Rd_pick.calls k g131 t129 t133 6 t134 t135 w _ ?side1 ?side2 A4.out).mono ?_
              (case side1 => repeat (first | (with_reducible first | exact HI131.out | apply IsS45.alloc | apply IsS45.drewN | apply IsS45.drew | apply IsS45.set_1) | exact HI131.out))
              (case side2 => repeat (first | (with_reducible first | exact HB.out | apply below_alloc | apply pw_below_drewN | apply below_drew1 | refine below_set ?_ (IsS45.ge HI131.out)) | exact HB.out))
              rintro e w13 ⟨rfl, hi, hb, hk⟩
              refine ⟨_, rfl, ?_⟩
              have n0_ := Aside0.mk (hb)
              have n1_ := Aside0.mk (hi)
              have z_HO141 := fun (h0_ : b 5 = true) => (show Kd.R (Kd.int .i64) 3 w13 w.heap.size (fun _ => True) v140 y139 from by first | exact (Kd.R_mono (Kd.R_keep (IsS45.apart (show IsS45 w _ g131 t129 t133 from by repeat (first | (with_reducible first | exact HI131.out | apply IsS45.alloc | apply IsS45.drewN | apply IsS45.drew | apply IsS45.set_1) | exact HI131.out)) (by (with_reducible repeat (first | apply Kd.R_alloc | apply Kd.R_drewN | apply Kd.R_drew)); exact (Q_HO141 h0_)) (by decide)) hk (fun _ h => h.2)) (fun _ h => h.1)) | exact Kd.R_mono (Kd.R_mono (Kd.R_keep (IsS45.apart (show IsS45 w _ g131 t129 t133 from by repeat (first | (with_reducible first | exact HI131.out | apply IsS45.alloc | apply IsS45.drewN | apply IsS45.drew | apply IsS45.set_1) | exact HI131.out)) (by (with_reducible repeat (first | apply Kd.R_alloc | apply Kd.R_drewN | apply Kd.R_drew)); exact (Q_HO141 h0_)) (by decide)) hk (fun _ h => h.2)) (fun _ h => h.1)) (fun _ h_ => by first | trivial | exact h_ | exact h_.1))
              clear HB
              clear HI131
              have HB := n0_
              have HI131 := n1_
              clear n0_ n1_
              (try clear hb)
              (try clear hb2)
              (try clear hk)
              (try clear hi)
              refine hK.out _ _ ⟨v137, adz_v137, v140, adz_v140, m8_, m10_, (by rw [ha.out]; exact putSel_upk 0 hb_ rfl rfl rfl), fun h0_ => absurd ((up_self b 2).symm.trans h0_) (by decide), (by repeat (first | (with_reducible first | exact HB.out | apply below_alloc | apply pw_below_drewN | apply below_drew1 | refine below_set ?_ (IsS45.ge HI131.out)) | exact HB.out)), fun _ _ => (by repeat (first | (with_reducible first | exact HI131.out | apply IsS45.alloc | apply IsS45.drewN | apply IsS45.drew | apply IsS45.set_1) | exact HI131.out)), fun h0_ => absurd ((hoff 4 (by kernel_rfl)).symm.trans h0_) (by decide), fun h0_ => absurd ((hoff 4 (by kernel_rfl)).symm.trans h0_) (by decide), z_HO141, Q_HA_HO141, fun h0_ => absurd ((hoff 7 (by kernel_rfl)).symm.trans h0_) (by decide), fun h0_ => absurd ((hoff 8 (by kernel_rfl)).symm.trans h0_) (by decide), fun h0_ => absurd ((hoff 10 (by kernel_rfl)).symm.trans h0_) (by decide)⟩
            refine steps_cons ?_ ?_
            · rintro b a w' ⟨v137, adz_v137, v140, adz_v140, m8_, m10_, ha, Q_HI131, Q_HB, Q_HI131_e2, Q_HO138, Q_HA_HO138, Q_HO141, Q_HA_HO141, Q_HI131_e7, Q_X8_, Q_X10_⟩ hb_ hon hoff
              refine ⟨_, rfl, fun K hK => ?_⟩
              have e12 : a.tmps[12]? = some (.int .i64 t134) := by rw [ha]; exact putSel_on (e := (2, 12, .int .i64 t134)) 0 rfl rfl (hon 2 (by kernel_rfl)) rfl
              replace ha := Aside0.mk ha
              have HB := Aside0.mk Q_HB
              refine value_ (w1 := w') (v := .int .i64 (wrap64 (1 + t134))) (by rfl) rfl ?_ ?_
              · go_simp
                (try simp only [i64_w])
                try rfl
              refine hK.out _ _ ⟨v137, adz_v137, v140, adz_v140, m8_, m10_, (by rw [ha.out]; exact putSel_upk 1 hb_ rfl rfl rfl), fun h0_ => absurd ((hon 2 (by kernel_rfl)).symm.trans h0_) (by decide), Q_HB, Q_HI131_e2, fun h0_ => absurd ((hoff 4 (by kernel_rfl)).symm.trans h0_) (by decide), fun h0_ => absurd ((hoff 4 (by kernel_rfl)).symm.trans h0_) (by decide), Q_HO141, Q_HA_HO141, Q_HI131_e7, Q_X8_, fun h0_ => absurd ((hoff 10 (by kernel_rfl)).symm.trans h0_) (by decide)⟩
            refine steps_cons ?_ ?_
            · rintro b a w' ⟨v137, adz_v137, v140, adz_v140, m8_, m10_, ha, Q_HI131, Q_HB, Q_HI131_e2, Q_HO138, Q_HA_HO138, Q_HO141, Q_HA_HO141, Q_HI131_e7, Q_X8_, Q_X10_⟩ hb_ hon hoff
              refine ⟨_, rfl, fun K hK => ?_⟩
              have e13 : a.tmps[13]? = some (.int .i64 (wrap64 (1 + t134))) := by rw [ha]; exact putSel_on (e := (3, 13, .int .i64 (wrap64 (1 + t134)))) 1 rfl rfl (hon 3 (by kernel_rfl)) rfl
              replace ha := Aside0.mk ha
              have HB := Aside0.mk Q_HB
              refine Kd.R_lit_step (Kd.int .i64) _ 3 ?hg (N := 14) ?hd (xs := ([wrap64 (1 + t134), 0, 122] : List Int)) (inner := [.int .i64 (wrap64 (1 + t134)), .int .i64 0, .int .i64 122]) (ok := fun _ => True) (okp := fun _ => True) ?hr ?hp (fun _ hk => hk) trivial (Below.refl _ _) (Nat.le_refl _) (by simp) ?_; (case hd => rfl); (case hg => rfl); (case hr => first | (go_simp; done) | (go_simp; rfl) | (simp only [i64_w]; first | (go_simp; done) | (go_simp; rfl))); (case hp => exact (Reps.one (show Kd.M (Kd.int .i64) _ _ _ (wrap64 (1 + t134)) [.int .i64 (wrap64 (1 + t134))] from rfl) (Reps.one (show Kd.M (Kd.int .i64) _ _ _ 0 [.int .i64 0] from rfl) (Reps.one (show Kd.M (Kd.int .i64) _ _ _ 122 [.int .i64 122] from rfl) (Reps.none _ _)))))
              intro v137 w15 ho16 hb hg_ hnew_
              clear hg_ hnew_
              (first | rw [← Ny136.out] at ho16 | (simp only [Int.reduceToNat] at ho16; rw [← Ny136.out] at ho16))
              have n0_ := Aside0.mk (Kd.R_lower ho16 (below_size (by repeat (first | (with_reducible first | exact HB.out | apply below_alloc | apply pw_below_drewN | apply below_drew1) | exact HB.out))))
              have n2_ := Aside0.mk (below_step (by repeat (first | (with_reducible first | exact HB.out | apply below_alloc | apply pw_below_drewN | apply below_drew1) | exact HB.out)) hb)
              have z_HI131_e2 := fun (h0_ : b 2 = true) (h1_ : b 7 = false) => (show IsS45 w w15 g131 t129 t135 from by first | exact (IsS45.below (by repeat (first | (with_reducible first | exact (Q_HI131_e2 h0_ h1_) | apply IsS45.alloc | apply IsS45.drewN | apply IsS45.drew | apply IsS45.set_1) | exact (Q_HI131_e2 h0_ h1_))) hb))
              have z_HO141 := fun (h0_ : b 5 = true) => (show Kd.R (Kd.int .i64) 3 w15 w.heap.size (fun _ => True) v140 y139 from by first | exact (Kd.R_elder' (by (with_reducible repeat (first | apply Kd.R_alloc | apply Kd.R_drewN | apply Kd.R_drew)); exact (Q_HO141 h0_)) (Kd.R_base ho16) hb) | exact Kd.R_mono (Kd.R_elder' (by (with_reducible repeat (first | apply Kd.R_alloc | apply Kd.R_drewN | apply Kd.R_drew)); exact (Q_HO141 h0_)) (Kd.R_base ho16) hb) (fun _ h_ => by first | trivial | exact h_ | exact h_.1))
              have z_HI131_e7 := fun (h0_ : b 7 = true) => (show IsS45 w w15 g131 t129 t143 from by first | exact (IsS45.below (by repeat (first | (with_reducible first | exact (Q_HI131_e7 h0_) | apply IsS45.alloc | apply IsS45.drewN | apply IsS45.drew | apply IsS45.set_1) | exact (Q_HI131_e7 h0_))) hb))
              clear HB
              have HO138 := n0_
              have HB := n2_
              clear n0_ n2_
              clear hb ho16
              obtain ⟨Ao17, co17, eo17⟩ := Kd.R_slice HO138.out
              subst eo17
              obtain ⟨ado17, fo17, _⟩ := Kd.at_int (Kd.R_reads' HO138.out).2.2 0 (by decide) (by rw [Ny136.out]; simp)
              cases fo17
              refine hK.out _ _ ⟨.slice (some ado17) y136.length co17, ado17, v140, adz_v140, m8_, m10_, (by rw [ha.out]; exact putSel_upk 2 hb_ rfl rfl rfl), fun h0_ => absurd ((hon 2 (by kernel_rfl)).symm.trans h0_) (by decide), (by repeat (first | (with_reducible first | exact HB.out | apply below_alloc | apply pw_below_drewN | apply below_drew1) | exact HB.out)), z_HI131_e2, fun _ => (by (with_reducible repeat (first | apply Kd.R_alloc | apply Kd.R_drewN | apply Kd.R_drew)); exact HO138.out), fun _ => ⟨_, rfl⟩, z_HO141, Q_HA_HO141, z_HI131_e7, Q_X8_, fun h0_ => absurd ((hoff 10 (by kernel_rfl)).symm.trans h0_) (by decide)⟩
            refine steps_cons ?_ ?_
            · rintro b a w' ⟨v137, adz_v137, v140, adz_v140, m8_, m10_, ha, Q_HI131, Q_HB, Q_HI131_e2, Q_HO138, Q_HA_HO138, Q_HO141, Q_HA_HO141, Q_HI131_e7, Q_X8_, Q_X10_⟩ hb_ hon hoff
              refine ⟨_, rfl, fun K hK => ?_⟩
              replace ha := Aside0.mk ha
              have HB := Aside0.mk Q_HB
              refine Kd.R_lit_step (Kd.int .i64) _ 3 ?hg (N := 15) ?hd (xs := ([0, 0, 0, 0, 0, 1, 2] : List Int)) (inner := [.int .i64 0, .int .i64 0, .int .i64 0, .int .i64 0, .int .i64 0, .int .i64 1, .int .i64 2]) (ok := fun _ => True) (okp := fun _ => True) ?hr ?hp (fun _ hk => hk) trivial (Below.refl _ _) (Nat.le_refl _) (by simp) ?_; (case hd => rfl); (case hg => rfl); (case hr => first | (go_simp; done) | (go_simp; rfl) | (simp only [i64_w]; first | (go_simp; done) | (go_simp; rfl))); (case hp => exact (Reps.one (show Kd.M (Kd.int .i64) _ _ _ 0 [.int .i64 0] from rfl) (Reps.one (show Kd.M (Kd.int .i64) _ _ _ 0 [.int .i64 0] from rfl) (Reps.one (show Kd.M (Kd.int .i64) _ _ _ 0 [.int .i64 0] from rfl) (Reps.one (show Kd.M (Kd.int .i64) _ _ _ 0 [.int .i64 0] from rfl) (Reps.one (show Kd.M (Kd.int .i64) _ _ _ 0 [.int .i64 0] from rfl) (Reps.one (show Kd.M (Kd.int .i64) _ _ _ 1 [.int .i64 1] from rfl) (Reps.one (show Kd.M (Kd.int .i64) _ _ _ 2 [.int .i64 2] from rfl) (Reps.none _ _)))))))))
              intro v140 w13 ho14 hb hg_ hnew_
              clear hg_ hnew_
              (first | rw [← Ny139.out] at ho14 | (simp only [Int.reduceToNat] at ho14; rw [← Ny139.out] at ho14))
              have n0_ := Aside0.mk (Kd.R_lower ho14 (below_size (by repeat (first | (with_reducible first | exact HB.out | apply below_alloc | apply pw_below_drewN | apply below_drew1) | exact HB.out))))
              have n2_ := Aside0.mk (below_step (by repeat (first | (with_reducible first | exact HB.out | apply below_alloc | apply pw_below_drewN | apply below_drew1) | exact HB.out)) hb)
              have z_HI131 := fun (h0_ : b 2 = false) => (show IsS45 w w13 g131 t129 t133 from by first | exact (IsS45.below (by repeat (first | (with_reducible first | exact (Q_HI131 h0_) | apply IsS45.alloc | apply IsS45.drewN | apply IsS45.drew | apply IsS45.set_1) | exact (Q_HI131 h0_))) hb))
              have z_HI131_e2 := fun (h0_ : b 2 = true) (h1_ : b 7 = false) => (show IsS45 w w13 g131 t129 t135 from by first | exact (IsS45.below (by repeat (first | (with_reducible first | exact (Q_HI131_e2 h0_ h1_) | apply IsS45.alloc | apply IsS45.drewN | apply IsS45.drew | apply IsS45.set_1) | exact (Q_HI131_e2 h0_ h1_))) hb))
              have z_HO138 := fun (h0_ : b 4 = true) => (show Kd.R (Kd.int .i64) 3 w13 w.heap.size (fun _ => True) v137 y136 from by first | exact (Kd.R_elder' (by (with_reducible repeat (first | apply Kd.R_alloc | apply Kd.R_drewN | apply Kd.R_drew)); exact (Q_HO138 h0_)) (Kd.R_base ho14) hb) | exact Kd.R_mono (Kd.R_elder' (by (with_reducible repeat (first | apply Kd.R_alloc | apply Kd.R_drewN | apply Kd.R_drew)); exact (Q_HO138 h0_)) (Kd.R_base ho14) hb) (fun _ h_ => by first | trivial | exact h_ | exact h_.1))
              have z_HI131_e7 := fun (h0_ : b 7 = true) => (show IsS45 w w13 g131 t129 t143 from by first | exact (IsS45.below (by repeat (first | (with_reducible first | exact (Q_HI131_e7 h0_) | apply IsS45.alloc | apply IsS45.drewN | apply IsS45.drew | apply IsS45.set_1) | exact (Q_HI131_e7 h0_))) hb))
              clear HB
              have HO141 := n0_
              have HB := n2_
              clear n0_ n2_
              clear hb ho14
              obtain ⟨Ao15, co15, eo15⟩ := Kd.R_slice HO141.out
              subst eo15
              obtain ⟨ado15, fo15, _⟩ := Kd.at_int (Kd.R_reads' HO141.out).2.2 0 (by decide) (by rw [Ny139.out]; simp)
              cases fo15
              refine hK.out _ _ ⟨v137, adz_v137, .slice (some ado15) y139.length co15, ado15, m8_, m10_, (by rw [ha.out]; exact putSel_upk 3 hb_ rfl rfl rfl), z_HI131, (by repeat (first | (with_reducible first | exact HB.out | apply below_alloc | apply pw_below_drewN | apply below_drew1) | exact HB.out)), z_HI131_e2, z_HO138, Q_HA_HO138, fun _ => (by (with_reducible repeat (first | apply Kd.R_alloc | apply Kd.R_drewN | apply Kd.R_drew)); exact HO141.out), fun _ => ⟨_, rfl⟩, z_HI131_e7, fun h0_ => absurd ((hoff 8 (by kernel_rfl)).symm.trans h0_) (by decide), fun h0_ => absurd ((hoff 10 (by kernel_rfl)).symm.trans h0_) (by decide)⟩
            refine steps_cons ?_ ?_
            · rintro b a w' ⟨v137, adz_v137, v140, adz_v140, m8_, m10_, ha, Q_HI131, Q_HB, Q_HI131_e2, Q_HO138, Q_HA_HO138, Q_HO141, Q_HA_HO141, Q_HI131_e7, Q_X8_, Q_X10_⟩ hb_ hon hoff
              refine ⟨_, rfl, fun K hK => ?_⟩
              have e16 : a.tmps[16]? = some (.pointer (some ⟨g131, 0, none⟩)) := by rw [ha]; exact (putSel_off rfl).trans rfl
              replace ha := Aside0.mk ha
              have HB := Aside0.mk Q_HB
              have HI131 := Aside0.mk (Q_HI131_e2 (hon 2 (by kernel_rfl)) hb_)
              refine goes_ Tryd.func13 (by kernel_rfl) rfl #[.pointer (some ⟨g131, 0, none⟩), .int .i64 7] (by rfl) rfl rfl (by first | (simp only [List.map_toArray, List.map_cons, List.map_nil, Act.eval, Array.getD_eq_getD_getElem?, Option.getD_some, e16]; done) | (simp only [List.map_toArray, List.map_cons, List.map_nil, Act.eval, Array.getD_eq_getD_getElem?, Option.getD_some, e16]; rfl)) ?_
              with_reducible refine (spec_l20Rd_pick.calls k g131 t129 t135 7 t142 t143 w _ ?side1 ?side2 A5.out).mono ?_
              (case side1 => repeat (first | (with_reducible first | exact HI131.out | apply IsS45.alloc | apply IsS45.drewN | apply IsS45.drew | apply IsS45.set_1) | exact HI131.out))
              (case side2 => repeat (first | (with_reducible first | exact HB.out | apply below_alloc | apply pw_below_drewN | apply below_drew1 | refine below_set ?_ (IsS45.ge HI131.out)) | exact HB.out))
              rintro e w15 ⟨rfl, hi, hb, hk⟩
              refine ⟨_, rfl, ?_⟩
              have n0_ := Aside0.mk (hb)
              have n1_ := Aside0.mk (hi)
              have z_HO138 := fun (h0_ : b 4 = true) => (show Kd.R (Kd.int .i64) 3 w15 w.heap.size (fun _ => True) v137 y136 from by first | exact (Kd.R_mono (Kd.R_keep (IsS45.apart (show IsS45 w _ g131 t129 t135 from by repeat (first | (with_reducible first | exact HI131.out | apply IsS45.alloc | apply IsS45.drewN | apply IsS45.drew | apply IsS45.set_1) | exact HI131.out)) (by (with_reducible repeat (first | apply Kd.R_alloc | apply Kd.R_drewN | apply Kd.R_drew)); exact (Q_HO138 h0_)) (by decide)) hk (fun _ h => h.2)) (fun _ h => h.1)) | exact Kd.R_mono (Kd.R_mono (Kd.R_keep (IsS45.apart (show IsS45 w _ g131 t129 t135 from by repeat (first | (with_reducible first | exact HI131.out | apply IsS45.alloc | apply IsS45.drewN | apply IsS45.drew | apply IsS45.set_1) | exact HI131.out)) (by (with_reducible repeat (first | apply Kd.R_alloc | apply Kd.R_drewN | apply Kd.R_drew)); exact (Q_HO138 h0_)) (by decide)) hk (fun _ h => h.2)) (fun _ h => h.1)) (fun _ h_ => by first | trivial | exact h_ | exact h_.1))
              have z_HO141 := fun (h0_ : b 5 = true) => (show Kd.R (Kd.int .i64) 3 w15 w.heap.size (fun _ => True) v140 y139 from by first | exact (Kd.R_mono (Kd.R_keep (IsS45.apart (show IsS45 w _ g131 t129 t135 from by repeat (first | (with_reducible first | exact HI131.out | apply IsS45.alloc | apply IsS45.drewN | apply IsS45.drew | apply IsS45.set_1) | exact HI131.out)) (by (with_reducible repeat (first | apply Kd.R_alloc | apply Kd.R_drewN | apply Kd.R_drew)); exact (Q_HO141 h0_)) (by decide)) hk (fun _ h => h.2)) (fun _ h => h.1)) | exact Kd.R_mono (Kd.R_mono (Kd.R_keep (IsS45.apart (show IsS45 w _ g131 t129 t135 from by repeat (first | (with_reducible first | exact HI131.out | apply IsS45.alloc | apply IsS45.drewN | apply IsS45.drew | apply IsS45.set_1) | exact HI131.out)) (by (with_reducible repeat (first | apply Kd.R_alloc | apply Kd.R_drewN | apply Kd.R_drew)); exact (Q_HO141 h0_)) (by decide)) hk (fun _ h => h.2)) (fun _ h => h.1)) (fun _ h_ => by first | trivial | exact h_ | exact h_.1))
              clear HB
              clear HI131
              have HB := n0_
              have HI131 := n1_
              clear n0_ n1_
              (try clear hb)
              (try clear hb2)
              (try clear hk)
              (try clear hi)
              refine hK.out _ _ ⟨v137, adz_v137, v140, adz_v140, m8_, m10_, (by rw [ha.out]; exact putSel_upk 4 hb_ rfl rfl rfl), fun h0_ => absurd ((hon 2 (by kernel_rfl)).symm.trans h0_) (by decide), (by repeat (first | (with_reducible first | exact HB.out | apply below_alloc | apply pw_below_drewN | apply below_drew1 | refine below_set ?_ (IsS45.ge HI131.out)) | exact HB.out)), fun _ h1_ => absurd ((up_self b 7).symm.trans h1_) (by decide), z_HO138, Q_HA_HO138, z_HO141, Q_HA_HO141, fun _ => (by repeat (first | (with_reducible first | exact HI131.out | apply IsS45.alloc | apply IsS45.drewN | apply IsS45.drew | apply IsS45.set_1) | exact HI131.out)), fun h0_ => absurd ((hoff 8 (by kernel_rfl)).symm.trans h0_) (by decide), fun h0_ => absurd ((hoff 10 (by kernel_rfl)).symm.trans h0_) (by decide)⟩
            refine steps_cons ?_ ?_
            · rintro b a w' ⟨v137, adz_v137, v140, adz_v140, m8_, m10_, ha, Q_HI131, Q_HB, Q_HI131_e2, Q_HO138, Q_HA_HO138, Q_HO141, Q_HA_HO141, Q_HI131_e7, Q_X8_, Q_X10_⟩ hb_ hon hoff
              refine ⟨_, rfl, fun K hK => ?_⟩
              have e15 : a.tmps[15]? = some (v140) := by rw [ha]; exact putSel_on (e := (5, 15, v140)) 3 rfl rfl (hon 5 (by kernel_rfl)) rfl
              have e17 : a.tmps[17]? = some (.int .i64 t142) := by rw [ha]; exact putSel_on (e := (7, 17, .int .i64 t142)) 4 rfl rfl (hon 7 (by kernel_rfl)) rfl
              replace ha := Aside0.mk ha
              have HB := Aside0.mk Q_HB
              have HO141 := Aside0.mk (Q_HO141 (hon 5 (by kernel_rfl)))
              have HA_HO141 := Aside0.mk (Q_HA_HO141 (hon 5 (by kernel_rfl)))
              have HI131 := Aside0.mk (Q_HI131_e7 (hon 7 (by kernel_rfl)))
              obtain ⟨c_, hv_⟩ := HA_HO141.out
              rw [hv_] at e15
              refine value_ (w1 := w') (v := .pointer (some (adz_v140.add (t142).toNat))) (by rfl) rfl ?_ ?_
              · go_simp
                (try simp only [i64_w])
                try rfl
              refine hK.out _ _ ⟨v137, adz_v137, v140, adz_v140, (.pointer (some (adz_v140.add (t142).toNat))), m10_, (by rw [ha.out]; exact putSel_upk 5 hb_ rfl rfl rfl), fun h0_ => absurd ((hon 2 (by kernel_rfl)).symm.trans h0_) (by decide), Q_HB, fun _ h1_ => absurd ((hon 7 (by kernel_rfl)).symm.trans h1_) (by decide), Q_HO138, Q_HA_HO138, Q_HO141, Q_HA_HO141, Q_HI131_e7, fun _ => rfl, fun h0_ => absurd ((hoff 10 (by kernel_rfl)).symm.trans h0_) (by decide)⟩
            refine steps_cons ?_ ?_
            · rintro b a w' ⟨v137, adz_v137, v140, adz_v140, m8_, m10_, ha, Q_HI131, Q_HB, Q_HI131_e2, Q_HO138, Q_HA_HO138, Q_HO141, Q_HA_HO141, Q_HI131_e7, Q_X8_, Q_X10_⟩ hb_ hon hoff
              refine ⟨_, rfl, fun K hK => ?_⟩
              have e18 : a.tmps[18]? = some (m8_) := by rw [ha]; exact putSel_on (e := (8, 18, m8_)) 5 rfl rfl (hon 8 (by kernel_rfl)) rfl
              rw [Q_X8_ (hon 8 (by kernel_rfl))] at e18
              replace ha := Aside0.mk ha
              have HB := Aside0.mk Q_HB
              have HO141 := Aside0.mk (Q_HO141 (hon 5 (by kernel_rfl)))
              have HA_HO141 := Aside0.mk (Q_HA_HO141 (hon 5 (by kernel_rfl)))
              have HI131 := Aside0.mk (Q_HI131_e7 (hon 7 (by kernel_rfl)))
              obtain ⟨c_, hv_⟩ := HA_HO141.out
              have hF_ := HO141.out
              rw [hv_] at hF_
              obtain ⟨ad_, ea_, hx_⟩ := Kd.at_int (Kd.R_reads' hF_).2.2 t142 (of_eq_true pi144) (of_eq_true qi144)
              cases ea_
              refine value_ (w1 := w') (v := .int .i64 (rd y139 t142)) (by rfl) rfl ?_ ?_
              · go_simp
                (try simp only [i64_w])
                try rfl
              refine hK.out _ _ ⟨v137, adz_v137, v140, adz_v140, m8_, m10_, (by rw [ha.out]; exact putSel_upk 6 hb_ rfl rfl rfl), fun h0_ => absurd ((hon 2 (by kernel_rfl)).symm.trans h0_) (by decide), Q_HB, fun _ h1_ => absurd ((hon 7 (by kernel_rfl)).symm.trans h1_) (by decide), Q_HO138, Q_HA_HO138, Q_HO141, Q_HA_HO141, Q_HI131_e7, Q_X8_, fun h0_ => absurd ((hoff 10 (by kernel_rfl)).symm.trans h0_) (by decide)⟩
            refine steps_cons ?_ ?_
            · rintro b a w' ⟨v137, adz_v137, v140, adz_v140, m8_, m10_, ha, Q_HI131, Q_HB, Q_HI131_e2, Q_HO138, Q_HA_HO138, Q_HO141, Q_HA_HO141, Q_HI131_e7, Q_X8_, Q_X10_⟩ hb_ hon hoff
              refine ⟨_, rfl, fun K hK => ?_⟩
              have e14 : a.tmps[14]? = some (v137) := by rw [ha]; exact putSel_on (e := (4, 14, v137)) 2 rfl rfl (hon 4 (by kernel_rfl)) rfl
              have e19 : a.tmps[19]? = some (.int .i64 (rd y139 t142)) := by rw [ha]; exact putSel_on (e := (9, 19, .int .i64 (rd y139 t142))) 6 rfl rfl (hon 9 (by kernel_rfl)) rfl
              replace ha := Aside0.mk ha
              have HB := Aside0.mk Q_HB
              have HO138 := Aside0.mk (Q_HO138 (hon 4 (by kernel_rfl)))
              have HA_HO138 := Aside0.mk (Q_HA_HO138 (hon 4 (by kernel_rfl)))
              have HO141 := Aside0.mk (Q_HO141 (hon 5 (by kernel_rfl)))
              have HA_HO141 := Aside0.mk (Q_HA_HO141 (hon 5 (by kernel_rfl)))
              have HI131 := Aside0.mk (Q_HI131_e7 (hon 7 (by kernel_rfl)))
              obtain ⟨c_, hv_⟩ := HA_HO138.out
              rw [hv_] at e14
              refine value_ (w1 := w') (v := .pointer (some (adz_v137.add ((rd y139 t142)).toNat))) (by rfl) rfl ?_ ?_
              · go_simp
                (try simp only [i64_w])
                try rfl
              refine hK.out _ _ ⟨v137, adz_v137, v140, adz_v140, m8_, (.pointer (some (adz_v137.add ((rd y139 t142)).toNat))), (by rw [ha.out]; exact putSel_upk 7 hb_ rfl rfl rfl), fun h0_ => absurd ((hon 2 (by kernel_rfl)).symm.trans h0_) (by decide), Q_HB, fun _ h1_ => absurd ((hon 7 (by kernel_rfl)).symm.trans h1_) (by decide), Q_HO138, Q_HA_HO138, Q_HO141, Q_HA_HO141, Q_HI131_e7, Q_X8_, fun _ => rfl⟩
            refine steps_cons ?_ ?_
            · rintro b a w' ⟨v137, adz_v137, v140, adz_v140, m8_, m10_, ha, Q_HI131, Q_HB, Q_HI131_e2, Q_HO138, Q_HA_HO138, Q_HO141, Q_HA_HO141, Q_HI131_e7, Q_X8_, Q_X10_⟩ hb_ hon hoff
              refine ⟨_, rfl, fun K hK => ?_⟩
              have e20 : a.tmps[20]? = some (m10_) := by rw [ha]; exact putSel_on (e := (10, 20, m10_)) 7 rfl rfl (hon 10 (by kernel_rfl)) rfl
              rw [Q_X10_ (hon 10 (by kernel_rfl))] at e20
              replace ha := Aside0.mk ha
              have HB := Aside0.mk Q_HB
              have HO138 := Aside0.mk (Q_HO138 (hon 4 (by kernel_rfl)))
              have HA_HO138 := Aside0.mk (Q_HA_HO138 (hon 4 (by kernel_rfl)))
              have HO141 := Aside0.mk (Q_HO141 (hon 5 (by kernel_rfl)))
              have HA_HO141 := Aside0.mk (Q_HA_HO141 (hon 5 (by kernel_rfl)))
              have HI131 := Aside0.mk (Q_HI131_e7 (hon 7 (by kernel_rfl)))
              obtain ⟨c_, hv_⟩ := HA_HO138.out
              have hF_ := HO138.out
              rw [hv_] at hF_
              obtain ⟨ad_, ea_, hx_⟩ := Kd.at_int (Kd.R_reads' hF_).2.2 (rd y139 t142) (of_eq_true pi145) (of_eq_true qi145)
              cases ea_
              refine value_ (w1 := w') (v := .int .i64 (rd y136 (rd y139 t142))) (by rfl) rfl ?_ ?_
              · go_simp
                (try simp only [i64_w])
                try rfl
              refine hK.out _ _ ⟨v137, adz_v137, v140, adz_v140, m8_, m10_, (by rw [ha.out]; exact putSel_upk 8 hb_ rfl rfl rfl), fun h0_ => absurd ((hon 2 (by kernel_rfl)).symm.trans h0_) (by decide), Q_HB, fun _ h1_ => absurd ((hon 7 (by kernel_rfl)).symm.trans h1_) (by decide), Q_HO138, Q_HA_HO138, Q_HO141, Q_HA_HO141, Q_HI131_e7, Q_X8_, Q_X10_⟩
            refine steps_cons ?_ ?_
            · rintro b a w' ⟨v137, adz_v137, v140, adz_v140, m8_, m10_, ha, Q_HI131, Q_HB, Q_HI131_e2, Q_HO138, Q_HA_HO138, Q_HO141, Q_HA_HO141, Q_HI131_e7, Q_X8_, Q_X10_⟩ hb_ hon hoff
              refine ⟨_, rfl, fun K hK => ?_⟩
              have e10 : a.tmps[10]? = some (.string t132) := by rw [ha]; exact (putSel_off rfl).trans rfl
              replace ha := Aside0.mk ha
              have HB := Aside0.mk Q_HB
              have HI131 := Aside0.mk (Q_HI131_e7 (hon 7 (by kernel_rfl)))
              refine value_ (w1 := w') (v := .string t132) (by rfl) rfl ?_ ?_
              · go_simp
                (try simp only [i64_w])
                try rfl
              refine hK.out _ _ ⟨v137, adz_v137, v140, adz_v140, m8_, m10_, (by rw [ha.out]; exact putSel_upk 9 hb_ rfl rfl rfl), fun h0_ => absurd ((hon 2 (by kernel_rfl)).symm.trans h0_) (by decide), Q_HB, fun _ h1_ => absurd ((hon 7 (by kernel_rfl)).symm.trans h1_) (by decide), Q_HO138, Q_HA_HO138, Q_HO141, Q_HA_HO141, Q_HI131_e7, Q_X8_, Q_X10_⟩
            refine steps_cons ?_ ?_
            · rintro b a w' ⟨v137, adz_v137, v140, adz_v140, m8_, m10_, ha, Q_HI131, Q_HB, Q_HI131_e2, Q_HO138, Q_HA_HO138, Q_HO141, Q_HA_HO141, Q_HI131_e7, Q_X8_, Q_X10_⟩ hb_ hon hoff
              refine ⟨_, rfl, fun K hK => ?_⟩
              have e21 : a.tmps[21]? = some (.int .i64 (rd y136 (rd y139 t142))) := by rw [ha]; exact putSel_on (e := (11, 21, .int .i64 (rd y136 (rd y139 t142)))) 8 rfl rfl (hon 11 (by kernel_rfl)) rfl
              replace ha := Aside0.mk ha
              have HB := Aside0.mk Q_HB
              have HO138 := Aside0.mk (Q_HO138 (hon 4 (by kernel_rfl)))
              have HA_HO138 := Aside0.mk (Q_HA_HO138 (hon 4 (by kernel_rfl)))
              have HO141 := Aside0.mk (Q_HO141 (hon 5 (by kernel_rfl)))
              have HA_HO141 := Aside0.mk (Q_HA_HO141 (hon 5 (by kernel_rfl)))
              have HI131 := Aside0.mk (Q_HI131_e7 (hon 7 (by kernel_rfl)))
              refine value_ (w1 := w') (v := .int .i64 (rd y136 (rd y139 t142))) (by rfl) rfl ?_ ?_
              · go_simp
                (try simp only [i64_w])
                try rfl
              refine hK.out _ _ ⟨v137, adz_v137, v140, adz_v140, m8_, m10_, (by rw [ha.out]; exact putSel_upk 10 hb_ rfl rfl rfl), fun h0_ => absurd ((hon 2 (by kernel_rfl)).symm.trans h0_) (by decide), Q_HB, fun _ h1_ => absurd ((hon 7 (by kernel_rfl)).symm.trans h1_) (by decide), Q_HO138, Q_HA_HO138, Q_HO141, Q_HA_HO141, Q_HI131_e7, Q_X8_, Q_X10_⟩
            exact steps_nil
          rintro b a w21 hall ⟨v137, adz_v137, v140, adz_v140, m8_, m10_, ha, Q_HI131, Q_HB, Q_HI131_e2, Q_HO138, Q_HA_HO138, Q_HO141, Q_HA_HO141, Q_HI131_e7, Q_X8_, Q_X10_⟩
          clear HB HI131
          have hb2_ := hall 2 (by kernel_rfl)
          have hb3_ := hall 3 (by kernel_rfl)
          have hb4_ := hall 4 (by kernel_rfl)
          have hb5_ := hall 5 (by kernel_rfl)
          have hb7_ := hall 7 (by kernel_rfl)
          have hb8_ := hall 8 (by kernel_rfl)
          have hb9_ := hall 9 (by kernel_rfl)
          have hb10_ := hall 10 (by kernel_rfl)
          have hb11_ := hall 11 (by kernel_rfl)
          have hb12_ := hall 12 (by kernel_rfl)
          have hb13_ := hall 13 (by kernel_rfl)
          subst ha
          obtain rfl := Q_X8_ hb8_
          obtain rfl := Q_X10_ hb10_
          simp only [putSel, hb2_, hb3_, hb4_, hb5_, hb7_, hb8_, hb9_, hb10_, hb11_, hb12_, hb13_, if_true, Act.put, List.setIfInBounds_toArray, List.set_cons_zero, List.set_cons_succ]
          clear Q_HI131
          have HB := Aside0.mk Q_HB
          clear Q_HB
          clear Q_HI131_e2
          have HO138 := Aside0.mk (Q_HO138 hb4_)
          clear Q_HO138
          have HA_HO138 := Aside0.mk (Q_HA_HO138 hb4_)
          clear Q_HA_HO138
          have HO141 := Aside0.mk (Q_HO141 hb5_)
          clear Q_HO141
          have HA_HO141 := Aside0.mk (Q_HA_HO141 hb5_)
          clear Q_HA_HO141
          have HI131 := Aside0.mk (Q_HI131_e7 hb7_)
          clear Q_HI131_e7
          clear hall hb2_ hb3_ hb4_ hb5_ hb7_ hb8_ hb9_ hb10_ hb11_ hb12_ hb13_
          obtain ⟨co22, eo22⟩ := HA_HO138.out
          clear HA_HO138
          subst eo22
          obtain ⟨co23, eo23⟩ := HA_HO141.out
          clear HA_HO141
          subst eo23
          try go_wp2
          go_ret2
          exact ⟨by first | rfl | (simp [errW_none, errW_some] <;> rfl) | (simp [*, errW_none, errW_some] <;> rfl), by repeat (first | (with_reducible first | exact HB.out | apply below_alloc | apply pw_below_drewN | apply below_drew1 | refine below_set ?_ (IsS45.ge HI131.out)) | exact HB.out)⟩
        · rw [if_neg c9] at H
          exact absurd H (by simp)
      · rw [if_neg c8] at H
        exact absurd H (by simp)
    · rw [if_neg c7] at H
      exact absurd H (by simp)
  · rw [if_neg c6] at H
    exact absurd H (by simp)

/-! ### impl_in: function 14 -/
def impl_in.f (a0 : Int) (a1 : Int) (a2 : Int) : Option (Bool) := if a1 ≤ a0 then (some (decide (a0 ≤ a2))) else (some false)
set_option maxHeartbeats 8000000 in
set_option maxRecDepth 100000 in
theorem impl_in.calls (a0 : Int) (a1 : Int) (a2 : Int) (r : Bool) (w : World) (h : impl_in.f a0 a1 a2 = some r) :
    Calls Tryd.prog 14 #[.int .i64 a0, .int .i64 a1, .int .i64 a2] w fun e w' => e = .returned (.bool r) ∧ Drawn0 w w' := by
  have H : (if a1 ≤ a0 then (some (decide (a0 ≤ a2))) else (some false)) = some r := h
  clear h
  by_cases c4 : a1 ≤ a0
  · rw [if_pos c4] at H
    have c4b0 : decide (a1 ≤ a0) = true := decide_eq_true c4
    clear c4
    obtain rfl := Option.some.inj H
    go_enter Tryd.func14, Tryd.ntmps14
    go_wp2
    go_ret
    exact ⟨by first | rfl | (simp; done) | (simp [*]; done), by repeat (first | exact Drawn0.refl _ | apply Drawn0.step)⟩
  · rw [if_neg c4] at H
    have c4b0 : decide (a1 ≤ a0) = false := decide_eq_false c4
    clear c4
    obtain rfl := Option.some.inj H
    go_enter Tryd.func14, Tryd.ntmps14
    go_wp2
    go_ret
    exact ⟨by first | rfl | (simp; done) | (simp [*]; done), by repeat (first | exact Drawn0.refl _ | apply Drawn0.step)⟩

/-! ### impl_ReadRange: function 6 -/
def impl_ReadRange.j0 : Nat → Int → Int → Int → Int → Option (Int × Int × Int)
  | 0, _, _, _, _ => none
  | k + 1, x1, x7, x8, x9 => (impl_in.f x7 1 x1).bind fun t153 => (if t153 = true then ((impl_in.f x9 x7 x1).bind fun t154 => (if t154 = true then (some (wrap64 (x7 - 1), wrap64 (x9 - 1), x8)) else (some ((-1), (-1), 0)))) else (some ((-1), (-1), 0)))
def impl_ReadRange.f (k : Nat) (a0 : ByteArray) (a1 : Int) : Option (Int × Int × Int) := (impl_in.f a1 1 121).bind fun t146 => (if t146 = true then ((strings_HasPrefix.f a0 (⟨#[37]⟩ : ByteArray)).bind fun t147 => (if t147 = true then (some (0, wrap64 (a1 - 1), 1)) else ((impl_readNumber.f a0).bind fun bt148 => (if 0 ≤ bt148.2 then (if bt148.2 ≤ (a0.size : Int) then ((strings_HasPrefix.f (a0.extract (bt148.2 : Int).toNat a0.size) (⟨#[44]⟩ : ByteArray)).bind fun t150 => (if t150 = true then (if 0 ≤ (wrap64 (bt148.2 + 1)) then (if (wrap64 (bt148.2 + 1)) ≤ (a0.size : Int) then ((impl_readNumber.f (a0.extract ((wrap64 (bt148.2 + 1)) : Int).toNat a0.size)).bind fun bt151 => (if bt151.2 = 0 then (some ((-1), (-1), 0)) else (impl_ReadRange.j0 k a1 bt148.1 (wrap64 (bt148.2 + (wrap64 (1 + bt151.2)))) bt151.1))) else (none)) else (none)) else (impl_ReadRange.j0 k a1 bt148.1 bt148.2 bt148.1))) else (none)) else (none))))) else (some ((-1), (-1), 0)))
theorem impl_ReadRange.mono_l : ∀ k, (∀ y0 y1 y2 y3, LeO (impl_ReadRange.j0 k y0 y1 y2 y3) (impl_ReadRange.j0 (k + 1) y0 y1 y2 y3))
  | 0 => fun _ _ _ _ r h => by simp [impl_ReadRange.j0] at h
  | k + 1 => by
    have ih0 := impl_ReadRange.mono_l k
    · intro y0 y1 y2 y3
      unfold impl_ReadRange.j0
      repeat' first
      | (with_reducible exact ih0 _ _ _ _)
      | (with_reducible exact LeO.refl _)
      | (with_reducible exact LeO.none _)
      | (with_reducible refine LeO.ite ?_ ?_)
      | (with_reducible refine LeO.bind ?_ (fun _ => ?_))
      | exact ih0 _ _ _ _
      | exact LeO.none _
      | refine LeO.ite ?_ ?_
      | refine LeO.bind ?_ (fun _ => ?_)
theorem impl_ReadRange.mono : ∀ a0 a1 k, LeO (impl_ReadRange.f k a0 a1) (impl_ReadRange.f (k + 1) a0 a1) := by
  intro a0 a1 k
  have ih0 := impl_ReadRange.mono_l k
  unfold impl_ReadRange.f
  repeat' first
      | (with_reducible exact ih0 _ _ _ _)
      | (with_reducible exact LeO.refl _)
      | (with_reducible exact LeO.none _)
      | (with_reducible refine LeO.ite ?_ ?_)
      | (with_reducible refine LeO.bind ?_ (fun _ => ?_))
      | exact ih0 _ _ _ _
      | exact LeO.none _
      | refine LeO.ite ?_ ?_
      | refine LeO.bind ?_ (fun _ => ?_)
set_option maxHeartbeats 8000000 in
set_option maxRecDepth 100000 in
theorem impl_ReadRange.calls (k : Nat) (a0 : ByteArray) (a1 : Int) (r1 : Int) (r2 : Int) (r3 : Int) (w : World) (hT : TW w) (h : impl_ReadRange.f k a0 a1 = some (r1, r2, r3)) :
    Calls Tryd.prog 6 #[.string a0, .int .i64 a1] w fun e w' => e = .returned (.tuple #[.int .i64 r1, .int .i64 r2, .int .i64 r3]) ∧ Below w.heap.size w w' := by
  have HB := Aside0.mk (Below.refl w.heap.size w)
  have HT := Aside0.mk hT
  clear hT
  have H : ((impl_in.f a1 1 121).bind fun t146 => (if t146 = true then ((strings_HasPrefix.f a0 (⟨#[37]⟩ : ByteArray)).bind fun t147 => (if t147 = true then (some (0, wrap64 (a1 - 1), 1)) else ((impl_readNumber.f a0).bind fun bt148 => (if 0 ≤ bt148.2 then (if bt148.2 ≤ (a0.size : Int) then ((strings_HasPrefix.f (a0.extract (bt148.2 : Int).toNat a0.size) (⟨#[44]⟩ : ByteArray)).bind fun t150 => (if t150 = true then (if 0 ≤ (wrap64 (bt148.2 + 1)) then (if (wrap64 (bt148.2 + 1)) ≤ (a0.size : Int) then ((impl_readNumber.f (a0.extract ((wrap64 (bt148.2 + 1)) : Int).toNat a0.size)).bind fun bt151 => (if bt151.2 = 0 then (some ((-1), (-1), 0)) else (impl_ReadRange.j0 k a1 bt148.1 (wrap64 (bt148.2 + (wrap64 (1 + bt151.2)))) bt151.1))) else (none)) else (none)) else (impl_ReadRange.j0 k a1 bt148.1 bt148.2 bt148.1))) else (none)) else (none))))) else (some ((-1), (-1), 0)))) = some (r1, r2, r3) := h
  clear h
  replace H := Option.bind_eq_some_iff.mp H
  obtain ⟨t146, A30, H⟩ := H
  replace H : (if t146 = true then ((strings_HasPrefix.f a0 (⟨#[37]⟩ : ByteArray)).bind fun t147 => (if t147 = true then (some (0, wrap64 (a1 - 1), 1)) else ((impl_readNumber.f a0).bind fun bt148 => (if 0 ≤ bt148.2 then (if bt148.2 ≤ (a0.size : Int) then ((strings_HasPrefix.f (a0.extract (bt148.2 : Int).toNat a0.size) (⟨#[44]⟩ : ByteArray)).bind fun t150 => (if t150 = true then (if 0 ≤ (wrap64 (bt148.2 + 1)) then (if (wrap64 (bt148.2 + 1)) ≤ (a0.size : Int) then ((impl_readNumber.f (a0.extract ((wrap64 (bt148.2 + 1)) : Int).toNat a0.size)).bind fun bt151 => (if bt151.2 = 0 then (some ((-1), (-1), 0)) else (impl_ReadRange.j0 k a1 bt148.1 (wrap64 (bt148.2 + (wrap64 (1 + bt151.2)))) bt151.1))) else (none)) else (none)) else (impl_ReadRange.j0 k a1 bt148.1 bt148.2 bt148.1))) else (none)) else (none))))) else (some ((-1), (-1), 0))) = some (r1, r2, r3) := H
  have A3 := Aside0.mk A30
  clear A30
  by_cases c4 : t146 = true
  · subst c4
    have H1 : ((strings_HasPrefix.f a0 (⟨#[37]⟩ : ByteArray)).bind fun t147 => (if t147 = true then (some (0, wrap64 (a1 - 1), 1)) else ((impl_readNumber.f a0).bind fun bt148 => (if 0 ≤ bt148.2 then (if bt148.2 ≤ (a0.size : Int) then ((strings_HasPrefix.f (a0.extract (bt148.2 : Int).toNat a0.size) (⟨#[44]⟩ : ByteArray)).bind fun t150 => (if t150 = true then (if 0 ≤ (wrap64 (bt148.2 + 1)) then (if (wrap64 (bt148.2 + 1)) ≤ (a0.size : Int) then ((impl_readNumber.f (a0.extract ((wrap64 (bt148.2 + 1)) : Int).toNat a0.size)).bind fun bt151 => (if bt151.2 = 0 then (some ((-1), (-1), 0)) else (impl_ReadRange.j0 k a1 bt148.1 (wrap64 (bt148.2 + (wrap64 (1 + bt151.2)))) bt151.1))) else (none)) else (none)) else (impl_ReadRange.j0 k a1 bt148.1 bt148.2 bt148.1))) else (none)) else (none))))) = some (r1, r2, r3) := by rw [if_pos rfl] at H; exact H
    clear H
    have H := H1
    clear H1
    replace H := Option.bind_eq_some_iff.mp H
    obtain ⟨t147, A50, H⟩ := H
    replace H : (if t147 = true then (some (0, wrap64 (a1 - 1), 1)) else ((impl_readNumber.f a0).bind fun bt148 => (if 0 ≤ bt148.2 then (if bt148.2 ≤ (a0.size : Int) then ((strings_HasPrefix.f (a0.extract (bt148.2 : Int).toNat a0.size) (⟨#[44]⟩ : ByteArray)).bind fun t150 => (if t150 = true then (if 0 ≤ (wrap64 (bt148.2 + 1)) then (if (wrap64 (bt148.2 + 1)) ≤ (a0.size : Int) then ((impl_readNumber.f (a0.extract ((wrap64 (bt148.2 + 1)) : Int).toNat a0.size)).bind fun bt151 => (if bt151.2 = 0 then (some ((-1), (-1), 0)) else (impl_ReadRange.j0 k a1 bt148.1 (wrap64 (bt148.2 + (wrap64 (1 + bt151.2)))) bt151.1))) else (none)) else (none)) else (impl_ReadRange.j0 k a1 bt148.1 bt148.2 bt148.1))) else (none)) else (none)))) = some (r1, r2, r3) := H
    have A5 := Aside0.mk A50
    clear A50
    by_cases c6 : t147 = true
    · subst c6
      have H1 : (some (0, wrap64 (a1 - 1), 1)) = some (r1, r2, r3) := by rw [if_pos rfl] at H; exact H
      clear H
      have H := H1
      clear H1
      simp only [Option.some.injEq, Prod.mk.injEq] at H
      obtain ⟨rfl, rfl, rfl⟩ := H
      go_enter Tryd.func6, Tryd.ntmps6
      go_wp2_with (first | ((with_reducible refine gate_callee (f := 14) rfl ?_); refine goesL_ (some 13) rfl rfl Tryd.func14 (by kernel_rfl) rfl #[.int .i64 a1, .int .i64 1, .int .i64 121] rfl (by (try simp only [List.map_toArray, List.map_cons, List.map_nil]); first | done | rfl | (simp only [List.length_drop, List.length_take]; rfl)) ?_; (with_reducible refine (impl_in.calls a1 1 121 true _ A3.out).mono ?_); rintro e w' ⟨rfl, ⟨nd, rfl⟩⟩; refine ⟨_, rfl, ?_⟩) | ((with_reducible refine gate_callee (f := 15) rfl ?_); refine goesL_ (some 16) rfl rfl Tryd.func15 (by kernel_rfl) rfl #[.string a0, .string (⟨#[37]⟩ : ByteArray)] rfl (by (try simp only [List.map_toArray, List.map_cons, List.map_nil]); first | done | rfl | (simp only [List.length_drop, List.length_take]; rfl)) ?_; (with_reducible refine (strings_HasPrefix.calls a0 (⟨#[37]⟩ : ByteArray) true _ A5.out).mono ?_); rintro e w' ⟨rfl, ⟨nd, rfl⟩⟩; refine ⟨_, rfl, ?_⟩))
      go_ret3
      exact ⟨by first | rfl | (simp [errW_none, errW_some] <;> rfl) | (simp [*, errW_none, errW_some] <;> rfl), by repeat (first | (with_reducible first | exact HB.out | apply below_alloc | apply pw_below_drewN | apply below_drew1) | exact HB.out)⟩
    · replace c6 := Bool.eq_false_iff.mpr c6
      subst c6
      have H1 : ((impl_readNumber.f a0).bind fun bt148 => (if 0 ≤ bt148.2 then (if bt148.2 ≤ (a0.size : Int) then ((strings_HasPrefix.f (a0.extract (bt148.2 : Int).toNat a0.size) (⟨#[44]⟩ : ByteArray)).bind fun t150 => (if t150 = true then (if 0 ≤ (wrap64 (bt148.2 + 1)) then (if (wrap64 (bt148.2 + 1)) ≤ (a0.size : Int) then ((impl_readNumber.f (a0.extract ((wrap64 (bt148.2 + 1)) : Int).toNat a0.size)).bind fun bt151 => (if bt151.2 = 0 then (some ((-1), (-1), 0)) else (impl_ReadRange.j0 k a1 bt148.1 (wrap64 (bt148.2 + (wrap64 (1 + bt151.2)))) bt151.1))) else (none)) else (none)) else (impl_ReadRange.j0 k a1 bt148.1 bt148.2 bt148.1))) else (none)) else (none))) = some (r1, r2, r3) := by rw [if_neg (show ¬ (false = true) by decide)] at H; exact H
      clear H
      have H := H1
      clear H1
      replace H := Option.bind_eq_some_iff.mp H
      obtain ⟨⟨t148, t149⟩, A70, H⟩ := H
      replace H : (if 0 ≤ t149 then (if t149 ≤ (a0.size : Int) then ((strings_HasPrefix.f (a0.extract (t149 : Int).toNat a0.size) (⟨#[44]⟩ : ByteArray)).bind fun t150 => (if t150 = true then (if 0 ≤ (wrap64 (t149 + 1)) then (if (wrap64 (t149 + 1)) ≤ (a0.size : Int) then ((impl_readNumber.f (a0.extract ((wrap64 (t149 + 1)) : Int).toNat a0.size)).bind fun bt151 => (if bt151.2 = 0 then (some ((-1), (-1), 0)) else (impl_ReadRange.j0 k a1 t148 (wrap64 (t149 + (wrap64 (1 + bt151.2)))) bt151.1))) else (none)) else (none)) else (impl_ReadRange.j0 k a1 t148 t149 t148))) else (none)) else (none)) = some (r1, r2, r3) := H
      have A7 := Aside0.mk A70
      clear A70
      by_cases c8 : 0 ≤ t149
      · rw [if_pos c8] at H
        have c8b0 := eq_true c8
        have c8b1 : decide (0 ≤ t149) = true := decide_eq_true c8
        clear c8
        by_cases c9 : t149 ≤ (a0.size : Int)
        · rw [if_pos c9] at H
          have c9b0 := eq_true c9
          have c9b1 : decide (t149 ≤ (a0.size : Int)) = true := decide_eq_true c9
          clear c9
          replace H := Option.bind_eq_some_iff.mp H
          obtain ⟨t150, A100, H⟩ := H
          replace H : (if t150 = true then (if 0 ≤ (wrap64 (t149 + 1)) then (if (wrap64 (t149 + 1)) ≤ (a0.size : Int) then ((impl_readNumber.f (a0.extract ((wrap64 (t149 + 1)) : Int).toNat a0.size)).bind fun bt151 => (if bt151.2 = 0 then (some ((-1), (-1), 0)) else (impl_ReadRange.j0 k a1 t148 (wrap64 (t149 + (wrap64 (1 + bt151.2)))) bt151.1))) else (none)) else (none)) else (impl_ReadRange.j0 k a1 t148 t149 t148)) = some (r1, r2, r3) := H
          have A10 := Aside0.mk A100
          clear A100
          have HC11 := Aside0.mk H
          clear H
          go_enter Tryd.func6, Tryd.ntmps6
          go_upto_if 28 with (first | ((with_reducible refine gate_callee (f := 14) rfl ?_); refine goesL_ (some 13) rfl rfl Tryd.func14 (by kernel_rfl) rfl #[.int .i64 a1, .int .i64 1, .int .i64 121] rfl (by (try simp only [List.map_toArray, List.map_cons, List.map_nil]); first | done | rfl | (simp only [List.length_drop, List.length_take]; rfl)) ?_; (with_reducible refine (impl_in.calls a1 1 121 true _ A3.out).mono ?_); rintro e w' ⟨rfl, ⟨nd, rfl⟩⟩; refine ⟨_, rfl, ?_⟩) | ((with_reducible refine gate_callee (f := 15) rfl ?_); refine goesL_ (some 16) rfl rfl Tryd.func15 (by kernel_rfl) rfl #[.string a0, .string (⟨#[37]⟩ : ByteArray)] rfl (by (try simp only [List.map_toArray, List.map_cons, List.map_nil]); first | done | rfl | (simp only [List.length_drop, List.length_take]; rfl)) ?_; (with_reducible refine (strings_HasPrefix.calls a0 (⟨#[37]⟩ : ByteArray) false _ A5.out).mono ?_); rintro e w' ⟨rfl, ⟨nd, rfl⟩⟩; refine ⟨_, rfl, ?_⟩) | ((with_reducible refine gate_callee (f := 16) rfl ?_); refine goesL_ (some 21) rfl rfl Tryd.func16 (by kernel_rfl) rfl #[.string a0] rfl (by (try simp only [List.map_toArray, List.map_cons, List.map_nil]); first | done | rfl | (simp only [List.length_drop, List.length_take]; rfl)) ?_; (with_reducible refine (impl_readNumber.calls a0 t148 t149 _ ?side1 A7.out).mono ?_); (case side1 => exact HT.out.below (by repeat (first | (with_reducible first | exact HB.out | apply below_alloc | apply pw_below_drewN | apply below_drew1) | exact HB.out))); rintro e w12 ⟨rfl, hb⟩; refine ⟨_, rfl, ?_⟩; have n0_ := Aside0.mk (below_step (by repeat (first | (with_reducible first | exact HB.out | apply below_alloc | apply pw_below_drewN | apply below_drew1) | exact HB.out)) hb); clear HB; have HB := n0_; clear n0_; (try clear hb); (try clear hb2); (try clear hk); (try clear hi)) | ((with_reducible refine gate_callee (f := 15) rfl ?_); refine goesL_ (some 28) rfl rfl Tryd.func15 (by kernel_rfl) rfl #[.string (a0.extract (t149 : Int).toNat a0.size), .string (⟨#[44]⟩ : ByteArray)] rfl (by (try simp only [List.map_toArray, List.map_cons, List.map_nil]); first | done | rfl | (simp only [List.length_drop, List.length_take]; rfl)) ?_; (with_reducible refine (strings_HasPrefix.calls (a0.extract (t149 : Int).toNat a0.size) (⟨#[44]⟩ : ByteArray) t150 _ A10.out).mono ?_); rintro e w' ⟨rfl, ⟨nd, rfl⟩⟩; refine ⟨_, rfl, ?_⟩))
          (try simp only [Act.put, List.setIfInBounds_toArray, List.set_cons_zero, List.set_cons_succ])
          go_cut [8, 9] (fun v8 v9 wc => ∃ (kq : Nat) (x8_10 : Int) (x9_10 : Int), v8 = .int .i64 x8_10 ∧ v9 = .int .i64 x9_10 ∧ Aside0 (impl_ReadRange.j0 kq a1 t148 x8_10 x9_10 = some (r1, r2, r3)) ∧ Aside0 (kq ≤ k) ∧ Aside0 (Below w.heap.size w wc))
          case first =>
            have H := HC11.out
            clear HC11
            by_cases c13 : t150 = true
            · subst c13
              have H1 : (if 0 ≤ (wrap64 (t149 + 1)) then (if (wrap64 (t149 + 1)) ≤ (a0.size : Int) then ((impl_readNumber.f (a0.extract ((wrap64 (t149 + 1)) : Int).toNat a0.size)).bind fun bt151 => (if bt151.2 = 0 then (some ((-1), (-1), 0)) else (impl_ReadRange.j0 k a1 t148 (wrap64 (t149 + (wrap64 (1 + bt151.2)))) bt151.1))) else (none)) else (none)) = some (r1, r2, r3) := by rw [if_pos rfl] at H; exact H
              clear H
              have H := H1
              clear H1
              obtain ⟨ji14, hji14⟩ : ∃ j_ : Int, (wrap64 (t149 + 1)) = j_ := ⟨_, rfl⟩
              replace H : (if 0 ≤ (ji14) then (if (ji14) ≤ (a0.size : Int) then ((impl_readNumber.f (a0.extract ((ji14) : Int).toNat a0.size)).bind fun bt151 => (if bt151.2 = 0 then (some ((-1), (-1), 0)) else (impl_ReadRange.j0 k a1 t148 (wrap64 (t149 + (wrap64 (1 + bt151.2)))) bt151.1))) else (none)) else (none)) = some (r1, r2, r3) := by first | (rw [hji14] at H; exact H) | (simp only [hji14] at H ⊢; exact H)
              have hji14w : (IntKind.i64.wrap (t149 + 1)) = ji14 := (i64_w _).trans hji14
              by_cases c15 : 0 ≤ (ji14)
              · rw [if_pos c15] at H
                have c15b0 := eq_true c15
                have c15b1 : decide (0 ≤ (ji14)) = true := decide_eq_true c15
                clear c15
                by_cases c16 : (ji14) ≤ (a0.size : Int)
                · rw [if_pos c16] at H
                  have c16b0 := eq_true c16
                  have c16b1 : decide ((ji14) ≤ (a0.size : Int)) = true := decide_eq_true c16
                  clear c16
                  replace H := Option.bind_eq_some_iff.mp H
                  obtain ⟨⟨t151, t152⟩, A170, H⟩ := H
                  replace H : (if t152 = 0 then (some ((-1), (-1), 0)) else (impl_ReadRange.j0 k a1 t148 (wrap64 (t149 + (wrap64 (1 + t152)))) t151)) = some (r1, r2, r3) := H
                  have A17 := Aside0.mk A170
                  clear A170
                  by_cases c18 : t152 = 0
                  · rw [if_pos c18] at H
                    have c18b0 : (t152 == 0) = true := beq_iff_eq.mpr c18
                    have c18b1 : (t152 != 0) = false := bne_eq_false_iff_eq.mpr c18
                    clear c18
                    (first | rw [c18b0] | (simp only [i64_w, i32_w]; rw [c18b0]) | skip)
                    simp only [Option.some.injEq, Prod.mk.injEq] at H
                    obtain ⟨rfl, rfl, rfl⟩ := H
                    go_wp2_with (first | ((with_reducible refine gate_callee (f := 16) rfl ?_); refine goesL_ (some 34) rfl rfl Tryd.func16 (by kernel_rfl) rfl #[.string (a0.extract ((ji14) : Int).toNat a0.size)] rfl (by (try simp only [List.map_toArray, List.map_cons, List.map_nil]); first | done | (simp only [hji14]; rfl) | rfl | (simp only [List.length_drop, List.length_take]; rfl)) ?_; (with_reducible refine (impl_readNumber.calls (a0.extract ((ji14) : Int).toNat a0.size) t151 t152 _ ?side1 A17.out).mono ?_); (case side1 => exact HT.out.below (by repeat (first | (with_reducible first | exact HB.out | apply below_alloc | apply pw_below_drewN | apply below_drew1) | exact HB.out))); rintro e w19 ⟨rfl, hb⟩; refine ⟨_, rfl, ?_⟩; have n0_ := Aside0.mk (below_step (by repeat (first | (with_reducible first | exact HB.out | apply below_alloc | apply pw_below_drewN | apply below_drew1) | exact HB.out)) hb); clear HB; have HB := n0_; clear n0_; (try clear hb); (try clear hb2); (try clear hk); (try clear hi)))
                    go_ret3
                    exact ⟨by first | rfl | (simp [errW_none, errW_some] <;> rfl) | (simp only [← hji14]; first | rfl | (simp [errW_none, errW_some] <;> rfl)) | (simp [*, errW_none, errW_some] <;> rfl), by repeat (first | (with_reducible first | exact HB.out | apply below_alloc | apply pw_below_drewN | apply below_drew1) | exact HB.out)⟩
                  · rw [if_neg c18] at H
                    have c18b0 : (t152 == 0) = false := beq_eq_false_iff_ne.mpr c18
                    have c18b1 : (t152 != 0) = true := bne_iff_ne.mpr c18
                    (first | rw [c18b0] | (simp only [i64_w, i32_w]; rw [c18b0]) | skip)
                    have H' := Aside0.mk H
                    clear H
                    go_wp2_with (first | ((with_reducible refine gate_callee (f := 16) rfl ?_); refine goesL_ (some 34) rfl rfl Tryd.func16 (by kernel_rfl) rfl #[.string (a0.extract ((ji14) : Int).toNat a0.size)] rfl (by (try simp only [List.map_toArray, List.map_cons, List.map_nil]); first | done | (simp only [hji14]; rfl) | rfl | (simp only [List.length_drop, List.length_take]; rfl)) ?_; (with_reducible refine (impl_readNumber.calls (a0.extract ((ji14) : Int).toNat a0.size) t151 t152 _ ?side1 A17.out).mono ?_); (case side1 => exact HT.out.below (by repeat (first | (with_reducible first | exact HB.out | apply below_alloc | apply pw_below_drewN | apply below_drew1) | exact HB.out))); rintro e w20 ⟨rfl, hb⟩; refine ⟨_, rfl, ?_⟩; have n0_ := Aside0.mk (below_step (by repeat (first | (with_reducible first | exact HB.out | apply below_alloc | apply pw_below_drewN | apply below_drew1) | exact HB.out)) hb); clear HB; have HB := n0_; clear n0_; (try clear hb); (try clear hb2); (try clear hk); (try clear hi)))
                    go_meet
                    case rel => exact ⟨_, (wrap64 (t149 + (wrap64 (1 + t152)))), (t151), (by first | rfl | (simp; done) | (simp [*]; done)), (by first | rfl | (simp; done) | (simp [*]; done)), H', ⟨by first | omega | exact Nat.le_refl _⟩, ⟨by repeat (first | (with_reducible first | exact HB.out | apply below_alloc | apply pw_below_drewN | apply below_drew1) | exact HB.out)⟩⟩
                · rw [if_neg c16] at H
                  exact absurd H (by simp)
              · rw [if_neg c15] at H
                exact absurd H (by simp)
            · replace c13 := Bool.eq_false_iff.mpr c13
              subst c13
              have H1 : (impl_ReadRange.j0 k a1 t148 t149 t148) = some (r1, r2, r3) := by rw [if_neg (show ¬ (false = true) by decide)] at H; exact H
              clear H
              have H := H1
              clear H1
              have H' := Aside0.mk H
              clear H
              go_wp2
              go_meet
              case rel => exact ⟨_, (t149), (t148), (by first | rfl | (simp; done) | (simp [*]; done)), (by first | rfl | (simp; done) | (simp [*]; done)), H', ⟨by first | omega | exact Nat.le_refl _⟩, ⟨by repeat (first | (with_reducible first | exact HB.out | apply below_alloc | apply pw_below_drewN | apply below_drew1) | exact HB.out)⟩⟩
          case rest =>
            clear HC11
            try clear c1
            try clear p2
            try clear c4
            try clear c6
            try clear p6
            try clear c8
            try clear c8b0
            try clear c8b1
            try clear c9
            try clear c9b0
            try clear c9b1
            try clear c13
            try clear c14
            try clear c15
            try clear c15b0
            try clear c15b1
            try clear c16
            try clear c16b0
            try clear c16b1
            try clear c18
            try clear c18b0
            try clear c18b1
            obtain ⟨kq, x8_10, x9_10, rfl, rfl, HA, HJ10, HB⟩ := hcut
            cases kq with
            | zero => exact absurd HA.out (by simp [impl_ReadRange.j0])
            | succ kj10 =>
              have H := HA.out
              clear HA
              simp only [impl_ReadRange.j0] at H
              replace H := Option.bind_eq_some_iff.mp H
              obtain ⟨t153, A210, H⟩ := H
              replace H : (if t153 = true then ((impl_in.f x9_10 t148 a1).bind fun t154 => (if t154 = true then (some (wrap64 (t148 - 1), wrap64 (x9_10 - 1), x8_10)) else (some ((-1), (-1), 0)))) else (some ((-1), (-1), 0))) = some (r1, r2, r3) := H
              have A21 := Aside0.mk A210
              clear A210
              by_cases c22 : t153 = true
              · subst c22
                have H1 : ((impl_in.f x9_10 t148 a1).bind fun t154 => (if t154 = true then (some (wrap64 (t148 - 1), wrap64 (x9_10 - 1), x8_10)) else (some ((-1), (-1), 0)))) = some (r1, r2, r3) := by rw [if_pos rfl] at H; exact H
                clear H
                have H := H1
                clear H1
                replace H := Option.bind_eq_some_iff.mp H
                obtain ⟨t154, A230, H⟩ := H
                replace H : (if t154 = true then (some (wrap64 (t148 - 1), wrap64 (x9_10 - 1), x8_10)) else (some ((-1), (-1), 0))) = some (r1, r2, r3) := H
                have A23 := Aside0.mk A230
                clear A230
                by_cases c24 : t154 = true
                · subst c24
                  have H1 : (some (wrap64 (t148 - 1), wrap64 (x9_10 - 1), x8_10)) = some (r1, r2, r3) := by rw [if_pos rfl] at H; exact H
                  clear H
                  have H := H1
                  clear H1
                  simp only [Option.some.injEq, Prod.mk.injEq] at H
                  obtain ⟨rfl, rfl, rfl⟩ := H
                  go_wp2_with (first | ((with_reducible refine gate_callee (f := 14) rfl ?_); refine goesL_ (some 46) rfl rfl Tryd.func14 (by kernel_rfl) rfl #[.int .i64 t148, .int .i64 1, .int .i64 a1] rfl (by (try simp only [List.map_toArray, List.map_cons, List.map_nil]); first | done | rfl | (simp only [List.length_drop, List.length_take]; rfl)) ?_; (with_reducible refine (impl_in.calls t148 1 a1 true _ A21.out).mono ?_); rintro e w' ⟨rfl, ⟨nd, rfl⟩⟩; refine ⟨_, rfl, ?_⟩) | (go_at_call 14; (with_reducible refine (impl_in.calls x9_10 t148 a1 true _ A23.out).mono ?_); rintro e w' ⟨rfl, ⟨nd, rfl⟩⟩))
                  go_ret3
                  exact ⟨by first | rfl | (simp [errW_none, errW_some] <;> rfl) | (simp [*, errW_none, errW_some] <;> rfl), by repeat (first | (with_reducible first | exact HB.out | apply below_alloc | apply pw_below_drewN | apply below_drew1) | exact HB.out)⟩
                · replace c24 := Bool.eq_false_iff.mpr c24
                  subst c24
                  have H1 : (some ((-1), (-1), 0)) = some (r1, r2, r3) := by rw [if_neg (show ¬ (false = true) by decide)] at H; exact H
                  clear H
                  have H := H1
                  clear H1
                  simp only [Option.some.injEq, Prod.mk.injEq] at H
                  obtain ⟨rfl, rfl, rfl⟩ := H
                  go_wp2_with (first | ((with_reducible refine gate_callee (f := 14) rfl ?_); refine goesL_ (some 46) rfl rfl Tryd.func14 (by kernel_rfl) rfl #[.int .i64 t148, .int .i64 1, .int .i64 a1] rfl (by (try simp only [List.map_toArray, List.map_cons, List.map_nil]); first | done | rfl | (simp only [List.length_drop, List.length_take]; rfl)) ?_; (with_reducible refine (impl_in.calls t148 1 a1 true _ A21.out).mono ?_); rintro e w' ⟨rfl, ⟨nd, rfl⟩⟩; refine ⟨_, rfl, ?_⟩) | (go_at_call 14; (with_reducible refine (impl_in.calls x9_10 t148 a1 false _ A23.out).mono ?_); rintro e w' ⟨rfl, ⟨nd, rfl⟩⟩))
                  go_ret3
                  exact ⟨by first | rfl | (simp [errW_none, errW_some] <;> rfl) | (simp [*, errW_none, errW_some] <;> rfl), by repeat (first | (with_reducible first | exact HB.out | apply below_alloc | apply pw_below_drewN | apply below_drew1) | exact HB.out)⟩
              · replace c22 := Bool.eq_false_iff.mpr c22
                subst c22
                have H1 : (some ((-1), (-1), 0)) = some (r1, r2, r3) := by rw [if_neg (show ¬ (false = true) by decide)] at H; exact H
                clear H
                have H := H1
                clear H1
                simp only [Option.some.injEq, Prod.mk.injEq] at H
                obtain ⟨rfl, rfl, rfl⟩ := H
                go_wp2_with (first | ((with_reducible refine gate_callee (f := 14) rfl ?_); refine goesL_ (some 46) rfl rfl Tryd.func14 (by kernel_rfl) rfl #[.int .i64 t148, .int .i64 1, .int .i64 a1] rfl (by (try simp only [List.map_toArray, List.map_cons, List.map_nil]); first | done | rfl | (simp only [List.length_drop, List.length_take]; rfl)) ?_; (with_reducible refine (impl_in.calls t148 1 a1 false _ A21.out).mono ?_); rintro e w' ⟨rfl, ⟨nd, rfl⟩⟩; refine ⟨_, rfl, ?_⟩))
                go_ret3
                exact ⟨by first | rfl | (simp [errW_none, errW_some] <;> rfl) | (simp [*, errW_none, errW_some] <;> rfl), by repeat (first | (with_reducible first | exact HB.out | apply below_alloc | apply pw_below_drewN | apply below_drew1) | exact HB.out)⟩
        · rw [if_neg c9] at H
          exact absurd H (by simp)
      · rw [if_neg c8] at H
        exact absurd H (by simp)
  · replace c4 := Bool.eq_false_iff.mpr c4
    subst c4
    have H1 : (some ((-1), (-1), 0)) = some (r1, r2, r3) := by rw [if_neg (show ¬ (false = true) by decide)] at H; exact H
    clear H
    have H := H1
    clear H1
    simp only [Option.some.injEq, Prod.mk.injEq] at H
    obtain ⟨rfl, rfl, rfl⟩ := H
    go_enter Tryd.func6, Tryd.ntmps6
    go_wp2_with (first | ((with_reducible refine gate_callee (f := 14) rfl ?_); refine goesL_ (some 13) rfl rfl Tryd.func14 (by kernel_rfl) rfl #[.int .i64 a1, .int .i64 1, .int .i64 121] rfl (by (try simp only [List.map_toArray, List.map_cons, List.map_nil]); first | done | rfl | (simp only [List.length_drop, List.length_take]; rfl)) ?_; (with_reducible refine (impl_in.calls a1 1 121 false _ A3.out).mono ?_); rintro e w' ⟨rfl, ⟨nd, rfl⟩⟩; refine ⟨_, rfl, ?_⟩))
    go_ret3
    exact ⟨by first | rfl | (simp [errW_none, errW_some] <;> rfl) | (simp [*, errW_none, errW_some] <;> rfl), by repeat (first | (with_reducible first | exact HB.out | apply below_alloc | apply pw_below_drewN | apply below_drew1) | exact HB.out)⟩

/-! ### spec_l1In: function 17 -/
def spec_l1In.f (a0 : Int) (a1 : Int) (a2 : Int) : Option (Bool) := if a0 ≥ a1 then (some (decide (a0 ≤ a2))) else (some false)
set_option maxHeartbeats 8000000 in
set_option maxRecDepth 100000 in
theorem spec_l1In.calls (a0 : Int) (a1 : Int) (a2 : Int) (r : Bool) (w : World) (h : spec_l1In.f a0 a1 a2 = some r) :
    Calls Tryd.prog 17 #[.int .i64 a0, .int .i64 a1, .int .i64 a2] w fun e w' => e = .returned (.bool r) ∧ Drawn0 w w' := by
  have H : (if a0 ≥ a1 then (some (decide (a0 ≤ a2))) else (some false)) = some r := h
  clear h
  by_cases c4 : a0 ≥ a1
  · rw [if_pos c4] at H
    have c4b0 : decide (a1 ≤ a0) = true := decide_eq_true c4
    clear c4
    obtain rfl := Option.some.inj H
    go_enter Tryd.func17, Tryd.ntmps17
    go_wp2
    go_ret
    exact ⟨by first | rfl | (simp; done) | (simp [*]; done), by repeat (first | exact Drawn0.refl _ | apply Drawn0.step)⟩
  · rw [if_neg c4] at H
    have c4b0 : decide (a1 ≤ a0) = false := decide_eq_false c4
    clear c4
    obtain rfl := Option.some.inj H
    go_enter Tryd.func17, Tryd.ntmps17
    go_wp2
    go_ret
    exact ⟨by first | rfl | (simp; done) | (simp [*]; done), by repeat (first | exact Drawn0.refl _ | apply Drawn0.step)⟩

/-! ### spec_l20Number: function 18 -/
def spec_l20Number.l0 : Nat → ByteArray → Int → Int → Option (Int × Int)
  | 0, _, _, _ => none
  | k + 1, x0, x1, x6 => if x1 < (x0.size : Int) then (if 0 ≤ x1 then (if (bt x0 x1) ≥ 48 then (if (bt x0 x1) ≤ 57 then (if x6 = 0 then (some (x6, x1)) else (if x6 < 100 then (spec_l20Number.l0 k x0 (wrap64 (x1 + 1)) (wrap64 ((wrap64 ((mx 0 x6) * 10)) + (((bt x0 x1) - 48) % 256)))) else (some (x6, x1)))) else (some (x6, x1))) else (some (x6, x1))) else (none)) else (some (x6, x1))
def spec_l20Number.f (k : Nat) (a0 : ByteArray) (a1 : Int) : Option (Int × Int) := spec_l20Number.l0 k a0 a1 (-1)
theorem spec_l20Number.mono_l : ∀ k, (∀ y0 y1 y2, LeO (spec_l20Number.l0 k y0 y1 y2) (spec_l20Number.l0 (k + 1) y0 y1 y2))
  | 0 => fun _ _ _ r h => by simp [spec_l20Number.l0] at h
  | k + 1 => by
    have ih0 := spec_l20Number.mono_l k
    · intro y0 y1 y2
      unfold spec_l20Number.l0
      repeat' first
      | (with_reducible exact ih0 _ _ _)
      | (with_reducible exact LeO.refl _)
      | (with_reducible exact LeO.none _)
      | (with_reducible refine LeO.ite ?_ ?_)
      | (with_reducible refine LeO.bind ?_ (fun _ => ?_))
      | exact ih0 _ _ _
      | exact LeO.none _
      | refine LeO.ite ?_ ?_
      | refine LeO.bind ?_ (fun _ => ?_)
theorem spec_l20Number.mono : ∀ a0 a1 k, LeO (spec_l20Number.f k a0 a1) (spec_l20Number.f (k + 1) a0 a1) := by
  intro a0 a1 k
  have ih0 := spec_l20Number.mono_l k
  unfold spec_l20Number.f
  repeat' first
      | (with_reducible exact ih0 _ _ _)
      | (with_reducible exact LeO.refl _)
      | (with_reducible exact LeO.none _)
      | (with_reducible refine LeO.ite ?_ ?_)
      | (with_reducible refine LeO.bind ?_ (fun _ => ?_))
      | exact ih0 _ _ _
      | exact LeO.none _
      | refine LeO.ite ?_ ?_
      | refine LeO.bind ?_ (fun _ => ?_)
set_option maxHeartbeats 8000000 in
set_option maxRecDepth 100000 in
theorem spec_l20Number.calls (k : Nat) (a0 : ByteArray) (a1 : Int) (r1 : Int) (r2 : Int) (w : World) (h : spec_l20Number.f k a0 a1 = some (r1, r2)) :
    Calls Tryd.prog 18 #[.string a0, .int .i64 a1] w fun e w' => e = .returned (.tuple #[.int .i64 r1, .int .i64 r2]) ∧ Below w.heap.size w w' := by
  have HB := Aside0.mk (Below.refl w.heap.size w)
  have H : (spec_l20Number.l0 k a0 a1 (-1)) = some (r1, r2) := h
  clear h
  have H' := Aside0.mk H
  clear H
  go_enter Tryd.func18, Tryd.ntmps18
  go_wp2
  go_loopg [1, 6] k (fun kq v1 v6 w' => ∃ (x1_1 : Int) (x6_1 : Int), v1 = .int .i64 x1_1 ∧ v6 = .int .i64 x6_1 ∧ Aside0 (spec_l20Number.l0 kq a0 x1_1 x6_1 = some (r1, r2)) ∧ Aside0 (kq ≤ k) ∧ Aside0 (Below w.heap.size w w'))
  case atStart => exact ⟨(a1), ((-1)), (by first | rfl | (simp; done) | (simp [*]; done)), (by first | rfl | (simp; done) | (simp [*]; done)), H', ⟨Nat.le_refl _⟩, ⟨by repeat (first | (with_reducible first | exact HB.out | apply below_alloc | apply pw_below_drewN | apply below_drew1) | exact HB.out)⟩⟩
  case round =>
    clear H'
    try clear c1
    try clear p2
    obtain ⟨x1_1, x6_1, rfl, rfl, HA, HK1, HB⟩ := hrel
    cases gk with
    | zero => exact absurd HA.out (by simp [spec_l20Number.l0])
    | succ k1 =>
      have H := HA.out
      clear HA
      simp only [spec_l20Number.l0] at H
      by_cases c3 : x1_1 < (a0.size : Int)
      · rw [if_pos c3] at H
        have c3b0 : decide (x1_1 < (a0.size : Int)) = true := decide_eq_true c3
        clear c3
        by_cases c4 : 0 ≤ x1_1
        · rw [if_pos c4] at H
          have c4b0 : decide (0 ≤ x1_1) = true := decide_eq_true c4
          clear c4
          by_cases c6 : (bt a0 x1_1) ≥ 48
          · rw [if_pos c6] at H
            have c6b0 : decide (48 ≤ (bt a0 x1_1)) = true := decide_eq_true c6
            clear c6
            by_cases c8 : (bt a0 x1_1) ≤ 57
            · rw [if_pos c8] at H
              have c8b0 : decide ((bt a0 x1_1) ≤ 57) = true := decide_eq_true c8
              clear c8
              by_cases c9 : x6_1 = 0
              · rw [if_pos c9] at H
                have c9b0 : (x6_1 == 0) = true := beq_iff_eq.mpr c9
                have c9b1 : (x6_1 != 0) = false := bne_eq_false_iff_eq.mpr c9
                clear c9
                simp only [Option.some.injEq, Prod.mk.injEq] at H
                obtain ⟨rfl, rfl⟩ := H
                have p5 : 0 ≤ (x1_1 : Int) := of_decide_eq_true (by first | (with_reducible assumption) | assumption)
                have q5 : x1_1 < (a0.size : Int) := of_decide_eq_true (by first | (with_reducible assumption) | assumption)
                have hx5 := bt_at a0 x1_1
                replace p5 := eq_true p5
                replace q5 := eq_true q5
                have p7 : 0 ≤ (x1_1 : Int) := of_decide_eq_true (by first | (with_reducible assumption) | assumption)
                have q7 : x1_1 < (a0.size : Int) := of_decide_eq_true (by first | (with_reducible assumption) | assumption)
                have hx7 := bt_at a0 x1_1
                replace p7 := eq_true p7
                replace q7 := eq_true q7
                go_wp2
                go_ret2
                exact ⟨by first | rfl | (simp [errW_none, errW_some] <;> rfl) | (simp [*, errW_none, errW_some] <;> rfl), by repeat (first | (with_reducible first | exact HB.out | apply below_alloc | apply pw_below_drewN | apply below_drew1) | exact HB.out)⟩
              · rw [if_neg c9] at H
                have c9b0 : (x6_1 == 0) = false := beq_eq_false_iff_ne.mpr c9
                have c9b1 : (x6_1 != 0) = true := bne_iff_ne.mpr c9
                by_cases c10 : x6_1 < 100
                · rw [if_pos c10] at H
                  have c10b0 : decide (x6_1 < 100) = true := decide_eq_true c10
                  clear c10
                  obtain ⟨ji11, hji11⟩ : ∃ j_ : Int, (mx 0 x6_1) = j_ := ⟨_, rfl⟩
                  replace H : (spec_l20Number.l0 k1 a0 (wrap64 (x1_1 + 1)) (wrap64 ((wrap64 ((ji11) * 10)) + (((bt a0 x1_1) - 48) % 256)))) = some (r1, r2) := by first | (rw [hji11] at H; exact H) | (simp only [hji11] at H ⊢; exact H)
                  have hji11_ : (if 0 < x6_1 then x6_1 else 0) = ji11 := hji11
                  have H' := Aside0.mk H
                  clear H
                  have p5 : 0 ≤ (x1_1 : Int) := of_decide_eq_true (by first | (with_reducible assumption) | assumption)
                  have q5 : x1_1 < (a0.size : Int) := of_decide_eq_true (by first | (with_reducible assumption) | assumption)
                  have hx5 := bt_at a0 x1_1
                  replace p5 := eq_true p5
                  replace q5 := eq_true q5
                  have p7 : 0 ≤ (x1_1 : Int) := of_decide_eq_true (by first | (with_reducible assumption) | assumption)
                  have q7 : x1_1 < (a0.size : Int) := of_decide_eq_true (by first | (with_reducible assumption) | assumption)
                  have hx7 := bt_at a0 x1_1
                  replace p7 := eq_true p7
                  replace q7 := eq_true q7
                  have p12 : 0 ≤ (x1_1 : Int) := of_decide_eq_true (by first | (with_reducible assumption) | assumption)
                  have q12 : x1_1 < (a0.size : Int) := of_decide_eq_true (by first | (with_reducible assumption) | assumption)
                  have hx12 := bt_at a0 x1_1
                  replace p12 := eq_true p12
                  replace q12 := eq_true q12
                  go_wp2
                  go_roundg k1
                  case measure => have := HK1.out; omega
                  case rel => exact ⟨(wrap64 (x1_1 + 1)), (wrap64 ((wrap64 ((ji11) * 10)) + (((bt a0 x1_1) - 48) % 256))), (by first | rfl | (simp; done) | (simp [*]; done)), (by first | rfl | (simp; done) | (simp only [← hji11] <;> (first | rfl | simp)) | (simp [*]; done)), H', ⟨by have := HK1.out; omega⟩, ⟨by repeat (first | (with_reducible first | exact HB.out | apply below_alloc | apply pw_below_drewN | apply below_drew1) | exact HB.out)⟩⟩
                · rw [if_neg c10] at H
                  have c10b0 : decide (x6_1 < 100) = false := decide_eq_false c10
                  clear c10
                  simp only [Option.some.injEq, Prod.mk.injEq] at H
                  obtain ⟨rfl, rfl⟩ := H
                  have p5 : 0 ≤ (x1_1 : Int) := of_decide_eq_true (by first | (with_reducible assumption) | assumption)
                  have q5 : x1_1 < (a0.size : Int) := of_decide_eq_true (by first | (with_reducible assumption) | assumption)
                  have hx5 := bt_at a0 x1_1
                  replace p5 := eq_true p5
                  replace q5 := eq_true q5
                  have p7 : 0 ≤ (x1_1 : Int) := of_decide_eq_true (by first | (with_reducible assumption) | assumption)
                  have q7 : x1_1 < (a0.size : Int) := of_decide_eq_true (by first | (with_reducible assumption) | assumption)
                  have hx7 := bt_at a0 x1_1
                  replace p7 := eq_true p7
                  replace q7 := eq_true q7
                  go_wp2
                  go_ret2
                  exact ⟨by first | rfl | (simp [errW_none, errW_some] <;> rfl) | (simp [*, errW_none, errW_some] <;> rfl), by repeat (first | (with_reducible first | exact HB.out | apply below_alloc | apply pw_below_drewN | apply below_drew1) | exact HB.out)⟩
            · rw [if_neg c8] at H
              have c8b0 : decide ((bt a0 x1_1) ≤ 57) = false := decide_eq_false c8
              clear c8
              simp only [Option.some.injEq, Prod.mk.injEq] at H
              obtain ⟨rfl, rfl⟩ := H
              have p5 : 0 ≤ (x1_1 : Int) := of_decide_eq_true (by first | (with_reducible assumption) | assumption)
              have q5 : x1_1 < (a0.size : Int) := of_decide_eq_true (by first | (with_reducible assumption) | assumption)
              have hx5 := bt_at a0 x1_1
              replace p5 := eq_true p5
              replace q5 := eq_true q5
              have p7 : 0 ≤ (x1_1 : Int) := of_decide_eq_true (by first | (with_reducible assumption) | assumption)
              have q7 : x1_1 < (a0.size : Int) := of_decide_eq_true (by first | (with_reducible assumption) | assumption)
              have hx7 := bt_at a0 x1_1
              replace p7 := eq_true p7
              replace q7 := eq_true q7
              go_wp2
              go_ret2
              exact ⟨by first | rfl | (simp [errW_none, errW_some] <;> rfl) | (simp [*, errW_none, errW_some] <;> rfl), by repeat (first | (with_reducible first | exact HB.out | apply below_alloc | apply pw_below_drewN | apply below_drew1) | exact HB.out)⟩
          · rw [if_neg c6] at H
            have c6b0 : decide (48 ≤ (bt a0 x1_1)) = false := decide_eq_false c6
            clear c6
            simp only [Option.some.injEq, Prod.mk.injEq] at H
            obtain ⟨rfl, rfl⟩ := H
            have p5 : 0 ≤ (x1_1 : Int) := of_decide_eq_true (by first | (with_reducible assumption) | assumption)
            have q5 : x1_1 < (a0.size : Int) := of_decide_eq_true (by first | (with_reducible assumption) | assumption)
            have hx5 := bt_at a0 x1_1
            replace p5 := eq_true p5
            replace q5 := eq_true q5
            go_wp2
            go_ret2
            exact ⟨by first | rfl | (simp [errW_none, errW_some] <;> rfl) | (simp [*, errW_none, errW_some] <;> rfl), by repeat (first | (with_reducible first | exact HB.out | apply below_alloc | apply pw_below_drewN | apply below_drew1) | exact HB.out)⟩
        · rw [if_neg c4] at H
          exact absurd H (by simp)
      · rw [if_neg c3] at H
        have c3b0 : decide (x1_1 < (a0.size : Int)) = false := decide_eq_false c3
        clear c3
        simp only [Option.some.injEq, Prod.mk.injEq] at H
        obtain ⟨rfl, rfl⟩ := H
        go_wp2
        go_ret2
        exact ⟨by first | rfl | (simp [errW_none, errW_some] <;> rfl) | (simp [*, errW_none, errW_some] <;> rfl), by repeat (first | (with_reducible first | exact HB.out | apply below_alloc | apply pw_below_drewN | apply below_drew1) | exact HB.out)⟩

end Go.Proofs.YtmpdbcmbchejmaaDoor.X
