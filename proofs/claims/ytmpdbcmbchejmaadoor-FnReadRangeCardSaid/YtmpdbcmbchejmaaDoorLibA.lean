/- The contract of impl.readNumber, in the printed functions' form: the decimal number, without zeros before it, with which a text begins. -/
import Derived.Test.YtmpdbcmbchejmaaDoorLibT
import Derived.Lib.AtoiAll
import Derived.Lib.AppendIntMem
import Derived.Lib.UnsafeStr
import Derived.WalkKit
import Derived.WalkMore
namespace Go.Proofs.YtmpdbcmbchejmaaDoor.X
open Go.RowKit Go.Proofs.YtmpdbcmbchejmaaDoorW.PrintWords
set_option linter.unusedVariables false
set_option linter.unusedSimpArgs false

/-- How many digits stand from place p on. -/
def digA (s : ByteArray) : Nat → Nat → Nat
  | 0, p => p
  | d + 1, p => if 48 ≤ bt s p ∧ bt s p ≤ 57 then digA s d (p + 1) else p
def dig (s : ByteArray) : Nat := digA s s.size 0
theorem digA_spec (s : ByteArray) : ∀ d p, p + d = s.size → p ≤ digA s d p ∧ digA s d p ≤ s.size ∧ (∀ j : Int, p ≤ j → j < digA s d p → 48 ≤ bt s j ∧ bt s j ≤ 57) ∧ (digA s d p < s.size → ¬ (48 ≤ bt s (digA s d p) ∧ bt s (digA s d p) ≤ 57))
  | 0, p, h => ⟨Nat.le_refl _, by simp [digA]; omega, fun j h0 h1 => by simp [digA] at h1; omega, fun h1 => by simp [digA] at h1; omega⟩
  | d + 1, p, h => by
    unfold digA
    by_cases e : 48 ≤ bt s p ∧ bt s p ≤ 57
    · rw [if_pos e]
      obtain ⟨h1, h2, h3, h4⟩ := digA_spec s d (p + 1) (by omega)
      refine ⟨by omega, h2, fun j h5 h6 => ?_, h4⟩
      by_cases e2 : j = p
      · subst e2; exact e
      · exact h3 j (by omega) h6
    · rw [if_neg e]; exact ⟨Nat.le_refl _, by omega, fun j h0 h1 => by omega, fun _ => e⟩
theorem dig_uniq (s : ByteArray) {x : Int} (h0 : 0 ≤ x) (h1 : x ≤ s.size) (h2 : ∀ j : Int, 0 ≤ j → j < x → 48 ≤ bt s j ∧ bt s j ≤ 57) (h3 : x < s.size → ¬ (48 ≤ bt s x ∧ bt s x ≤ 57)) : x = dig s := by
  obtain ⟨a, b, c, d⟩ := digA_spec s s.size 0 (by omega)
  unfold dig
  by_cases hlt : x < digA s s.size 0
  · exact absurd (c x h0 hlt) (h3 (by omega))
  · by_cases hgt : (digA s s.size 0 : Int) < x
    · exact absurd (h2 _ (by omega) hgt) (d (by omega))
    · omega
/-- The number with which a text begins, and how many digits it has. -/
def rdn (s : ByteArray) : Int × Int :=
  match Lib.atoiAll (s.extract 0 (dig s)).data.toList with
  | .ok v => if Lib.itoa v = (s.extract 0 (dig s)).data.toList then (v, dig s) else (-1, 0)
  | _ => (-1, 0)
def impl_readNumber.f (a0 : ByteArray) : Option (Int × Int) := if a0.size ≤ 1000000000 then some (rdn a0) else none
theorem bytesWorld_below (w : World) (b : TypeId) (t : ByteArray) : Below w.heap.size w (Lib.bytesWorld w b t) :=
  Lib.below_freeze (((Below.refl w.heap.size w).drew).alloc (Nat.le_refl _) _) (Nat.le_refl _) 1
theorem atoi_range {l : List UInt8} {v : Int} (h : Lib.atoiAll l = .ok v) : -9223372036854775808 ≤ v ∧ v ≤ 9223372036854775807 := by
  cases l with
  | nil => simp [Lib.atoiAll] at h
  | cons c r =>
    simp only [Lib.atoiAll] at h
    generalize Lib.parseMag (if c.toNat = 43 ∨ c.toNat = 45 then r else c :: r) = pm at h
    cases pm with
    | «syntax» => cases h
    | range => cases h
    | ok u =>
      dsimp only at h
      by_cases h1 : ¬ c.toNat = 45 ∧ 9223372036854775808 ≤ u
      · rw [if_pos h1] at h; cases h
      · rw [if_neg h1] at h
        by_cases h2 : c.toNat = 45 ∧ 9223372036854775808 < u
        · rw [if_pos h2] at h; cases h
        · rw [if_neg h2] at h
          have h3 : (if c.toNat = 45 then -(u : Int) else u) = v := Lib.NumEnd.ok.inj h
          split at h3 <;> omega
theorem ne_clash {a b : List UInt8} (h : ¬ a = b) (hh : (!(a == b)) = false) : False := h (by simpa using hh)
theorem Atoi_ok {s : ByteArray} {v : Int} (h : Lib.atoiAll s.data.toList = .ok v) (hs : s.size ≤ 1000000000) (w : World) : Calls Tryd.prog 26 #[.string s] w fun e w' => e = .returned (.tuple #[.int .i64 v, .nilIface]) ∧ Below w.heap.size w w' :=
  (Tryd.strconv_Atoi_ok s (by omega) v h w).mono fun e w' ⟨he, hw⟩ => ⟨he, by
    rcases hw with rfl | ⟨t, rfl⟩
    · exact Below.refl _ _
    · exact bytesWorld_below w _ t⟩
theorem Itoa_w {n : Int} (h0 : -9223372036854775808 ≤ n) (h1 : n ≤ 9223372036854775807) (w : World) (hT : TW w) : Calls Tryd.prog 27 #[.int .i64 n] w fun e w' => e = .returned (.string ⟨(Lib.itoa n).toArray⟩) ∧ Below w.heap.size w w' :=
  (Tryd.strconv_Itoa n h0 h1 w hT.pow10).mono fun e w' ⟨he, k, os, hw⟩ => ⟨he, hw ▸ Lib.below_grow _ w (Nat.le_refl _) k os⟩
theorem Atoi_syn {s : ByteArray} (h : Lib.atoiAll s.data.toList = .«syntax») (hs : s.size ≤ 1000000000) (w : World) (hT : TW w) : Calls Tryd.prog 26 #[.string s] w fun e w' => ∃ (n : Int) (p : Addr), e = .returned (.tuple #[.int .i64 n, .iface 73 (.pointer (some p))]) ∧ Below w.heap.size w w' := by
  obtain ⟨te, pe, hc⟩ := hT.syn
  refine (Tryd.strconv_Atoi_syntax s (by omega) h _ w hc (.inr ⟨te, pe, rfl⟩)).mono ?_
  rintro e w' ⟨N, rfl, _, _, hb⟩
  exact ⟨0, ⟨N, 0, none⟩, rfl, hb⟩
theorem Atoi_ran {s : ByteArray} (h : Lib.atoiAll s.data.toList = .range) (hs : s.size ≤ 1000000000) (w : World) (hT : TW w) : Calls Tryd.prog 26 #[.string s] w fun e w' => ∃ (n : Int) (p : Addr), e = .returned (.tuple #[.int .i64 n, .iface 73 (.pointer (some p))]) ∧ Below w.heap.size w w' := by
  obtain ⟨te, pe, hc⟩ := hT.ran
  refine (Tryd.strconv_Atoi_range s (by omega) h _ w hc (.inr ⟨te, pe, rfl⟩)).mono ?_
  rintro e w' ⟨N, rfl, _, _, hb⟩
  exact ⟨_, ⟨N, 0, none⟩, rfl, hb⟩
set_option maxHeartbeats 8000000 in
set_option maxRecDepth 100000 in
theorem impl_readNumber.calls (a0 : ByteArray) (r1 r2 : Int) (w : World) (hT : TW w) (h : impl_readNumber.f a0 = some (r1, r2)) :
    Calls Tryd.prog 16 #[.string a0] w fun e w' => e = .returned (.tuple #[.int .i64 r1, .int .i64 r2]) ∧ Below w.heap.size w w' := by
  unfold impl_readNumber.f at h
  split at h
  case isFalse => cases h
  rename_i hs
  have h := Option.some.inj h
  go_enter Tryd.func16, Tryd.ntmps16
  go_wp2
  go_loopw [4] (fun a wr => ∃ x : Int, a = .int .i64 x ∧ 0 ≤ x ∧ x ≤ a0.size ∧ Aside0 (∀ j : Int, 0 ≤ j → j < x → 48 ≤ bt a0 j ∧ bt a0 j ≤ 57) ∧ wr = w) (fun a _ => a0.size - (intOf a).toNat)
  case atStart => exact ⟨0, rfl, by omega, by omega, ⟨fun j h0 h1 => by omega⟩, rfl⟩
  case round =>
    obtain ⟨x, rfl, x0, x1, HD, rfl⟩ := hrel
    by_cases hlt : x < (a0.size : Int)
    · have hx := bt_at a0 x
      have p1 := eq_true x0
      have q1 := eq_true hlt
      have cr := bt_range a0 x
      obtain ⟨c, hc⟩ : ∃ c, c = bt a0 x := ⟨_, rfl⟩
      rw [← hc] at hx cr
      by_cases h48 : 48 ≤ c
      · by_cases h57 : c ≤ 57
        · have f1 := eq_true h48
          have f2 := eq_true h57
          go_wp2
          go_roundw
          case rel => exact ⟨x + 1, by first | rfl | go_num, by omega, by omega, ⟨fun j h0 h1 => by
            by_cases e : j = x
            · subst e; rw [← hc]; exact ⟨h48, h57⟩
            · exact HD.out j h0 (by omega)⟩, by first | rfl | trivial⟩
          case measure => simp [intOf]; omega
        · have f1 := eq_true h48
          have f2 := eq_false h57
          have hd : dig a0 = x.toNat := by have := dig_uniq a0 x0 x1 HD.out (fun _ => by rw [← hc]; exact fun h => h57 h.2); omega
          have p2 := eq_true x0
          have q2 := eq_true x1
          unfold rdn at h
          rw [hd, show ((x.toNat : Nat) : Int) = x from by omega] at h
          have hz : (a0.extract 0 x.toNat).size ≤ 1000000000 := by rw [ByteArray.size_extract]; omega
          cases hA : Lib.atoiAll (a0.extract 0 x.toNat).data.toList with
          | ok v =>
            rw [hA] at h
            dsimp only at h
            have hr := atoi_range hA
            have hT2 : (a0.extract 0 x.toNat).toList = (a0.extract 0 x.toNat).data.toList := ByteArray.toList_eq _
            by_cases e : Lib.itoa v = (a0.extract 0 x.toNat).data.toList
            · rw [if_pos e] at h
              obtain ⟨rfl, rfl⟩ := Prod.mk.inj h
              have HE := Aside0.mk e
              have HT2 := Aside0.mk hT2
              clear e h hT2
              go_wp2_with (first | (go_at_call 26; refine (Atoi_ok hA hz _).mono ?_; rintro e w1 ⟨rfl, hb1⟩) | (go_at_call 27; refine (Itoa_w hr.1 hr.2 _ (hT.below hb1)).mono ?_; rintro e w2 ⟨rfl, hb2⟩))
              go_region_with (first | (go_at_call 27; refine (Itoa_w hr.1 hr.2 _ (by first | exact hT.below hb1 | exact (hT.below hb1).drew | exact (hT.below hb1).drewN _)).mono ?_; rintro e w2 ⟨rfl, hb2⟩))
              all_goals go_wp2
              all_goals first
                | (rename_i hh; rw [HE.out, HT2.out] at hh; simp at hh; done)
                | (go_ret2; exact ⟨by first | rfl | (simp; done), by first | exact hb1.trans (hb2.mono hb1.size) | exact hb1.drew.trans (hb2.mono hb1.size) | exact (pw_below_drewN hb1 _).trans (hb2.mono hb1.size)⟩)
            · rw [if_neg e] at h
              obtain ⟨rfl, rfl⟩ := Prod.mk.inj h
              have HE := Aside0.mk e
              have HT2 := Aside0.mk hT2
              clear e h hT2
              go_wp2_with (first | (go_at_call 26; refine (Atoi_ok hA hz _).mono ?_; rintro e w1 ⟨rfl, hb1⟩) | (go_at_call 27; refine (Itoa_w hr.1 hr.2 _ (hT.below hb1)).mono ?_; rintro e w2 ⟨rfl, hb2⟩))
              go_region_with (first | (go_at_call 27; refine (Itoa_w hr.1 hr.2 _ (by first | exact hT.below hb1 | exact (hT.below hb1).drew | exact (hT.below hb1).drewN _)).mono ?_; rintro e w2 ⟨rfl, hb2⟩))
              all_goals go_wp2
              all_goals first
                | (rename_i hh; rw [HT2.out] at hh; exact (ne_clash HE.out hh).elim)
                | (go_ret2; exact ⟨by first | rfl | (simp; done), by first | exact hb1.trans (hb2.mono hb1.size) | exact hb1.drew.trans (hb2.mono hb1.size) | exact (pw_below_drewN hb1 _).trans (hb2.mono hb1.size)⟩)
          | «syntax» =>
            rw [hA] at h
            dsimp only at h
            obtain ⟨rfl, rfl⟩ := Prod.mk.inj h
            go_wp2_with (first | (go_at_call 26; refine (Atoi_syn hA hz _ hT).mono ?_; rintro e w1 ⟨n1, p1, rfl, hb1⟩))
            repeat (first | go_quiet (first | (go_at_call 26; refine (Atoi_syn hA hz _ hT).mono ?_; rintro e w1 ⟨n1, p1, rfl, hb1⟩)); try go_wp2_with (first | (go_at_call 26; refine (Atoi_syn hA hz _ hT).mono ?_; rintro e w1 ⟨n1, p1, rfl, hb1⟩)))
            go_ret2
            exact ⟨by first | rfl | (simp; done), by first | exact hb1.trans (hb2.mono hb1.size) | exact hb1.drew.trans (hb2.mono hb1.size) | exact (pw_below_drewN hb1 _).trans (hb2.mono hb1.size) | exact pw_below_drewN hb1 _ | exact hb1⟩
          | range =>
            rw [hA] at h
            dsimp only at h
            obtain ⟨rfl, rfl⟩ := Prod.mk.inj h
            go_wp2_with (first | (go_at_call 26; refine (Atoi_ran hA hz _ hT).mono ?_; rintro e w1 ⟨n1, p1, rfl, hb1⟩))
            repeat (first | go_quiet (first | (go_at_call 26; refine (Atoi_ran hA hz _ hT).mono ?_; rintro e w1 ⟨n1, p1, rfl, hb1⟩)); try go_wp2_with (first | (go_at_call 26; refine (Atoi_ran hA hz _ hT).mono ?_; rintro e w1 ⟨n1, p1, rfl, hb1⟩)))
            go_ret2
            exact ⟨by first | rfl | (simp; done), by first | exact hb1.trans (hb2.mono hb1.size) | exact hb1.drew.trans (hb2.mono hb1.size) | exact (pw_below_drewN hb1 _).trans (hb2.mono hb1.size) | exact pw_below_drewN hb1 _ | exact hb1⟩
      · have f1 := eq_false h48
        have hd : dig a0 = x.toNat := by have := dig_uniq a0 x0 x1 HD.out (fun _ => by rw [← hc]; exact fun h => h48 h.1); omega
        have p2 := eq_true x0
        have q2 := eq_true x1
        unfold rdn at h
        rw [hd, show ((x.toNat : Nat) : Int) = x from by omega] at h
        have hz : (a0.extract 0 x.toNat).size ≤ 1000000000 := by rw [ByteArray.size_extract]; omega
        cases hA : Lib.atoiAll (a0.extract 0 x.toNat).data.toList with
        | ok v =>
          rw [hA] at h
          dsimp only at h
          have hr := atoi_range hA
          have hT2 : (a0.extract 0 x.toNat).toList = (a0.extract 0 x.toNat).data.toList := ByteArray.toList_eq _
          by_cases e : Lib.itoa v = (a0.extract 0 x.toNat).data.toList
          · rw [if_pos e] at h
            obtain ⟨rfl, rfl⟩ := Prod.mk.inj h
            have HE := Aside0.mk e
            have HT2 := Aside0.mk hT2
            clear e h hT2
            go_wp2_with (first | (go_at_call 26; refine (Atoi_ok hA hz _).mono ?_; rintro e w1 ⟨rfl, hb1⟩) | (go_at_call 27; refine (Itoa_w hr.1 hr.2 _ (hT.below hb1)).mono ?_; rintro e w2 ⟨rfl, hb2⟩))
            go_region_with (first | (go_at_call 27; refine (Itoa_w hr.1 hr.2 _ (by first | exact hT.below hb1 | exact (hT.below hb1).drew | exact (hT.below hb1).drewN _)).mono ?_; rintro e w2 ⟨rfl, hb2⟩))
            all_goals go_wp2
            all_goals first
              | (rename_i hh; rw [HE.out, HT2.out] at hh; simp at hh; done)
              | (go_ret2; exact ⟨by first | rfl | (simp; done), by first | exact hb1.trans (hb2.mono hb1.size) | exact hb1.drew.trans (hb2.mono hb1.size) | exact (pw_below_drewN hb1 _).trans (hb2.mono hb1.size)⟩)
          · rw [if_neg e] at h
            obtain ⟨rfl, rfl⟩ := Prod.mk.inj h
            have HE := Aside0.mk e
            have HT2 := Aside0.mk hT2
            clear e h hT2
            go_wp2_with (first | (go_at_call 26; refine (Atoi_ok hA hz _).mono ?_; rintro e w1 ⟨rfl, hb1⟩) | (go_at_call 27; refine (Itoa_w hr.1 hr.2 _ (hT.below hb1)).mono ?_; rintro e w2 ⟨rfl, hb2⟩))
            go_region_with (first | (go_at_call 27; refine (Itoa_w hr.1 hr.2 _ (by first | exact hT.below hb1 | exact (hT.below hb1).drew | exact (hT.below hb1).drewN _)).mono ?_; rintro e w2 ⟨rfl, hb2⟩))
            all_goals go_wp2
            all_goals first
              | (rename_i hh; rw [HT2.out] at hh; exact (ne_clash HE.out hh).elim)
              | (go_ret2; exact ⟨by first | rfl | (simp; done), by first | exact hb1.trans (hb2.mono hb1.size) | exact hb1.drew.trans (hb2.mono hb1.size) | exact (pw_below_drewN hb1 _).trans (hb2.mono hb1.size)⟩)
        | «syntax» =>
          rw [hA] at h
          dsimp only at h
          obtain ⟨rfl, rfl⟩ := Prod.mk.inj h
          go_wp2_with (first | (go_at_call 26; refine (Atoi_syn hA hz _ hT).mono ?_; rintro e w1 ⟨n1, p1, rfl, hb1⟩))
          repeat (first | go_quiet (first | (go_at_call 26; refine (Atoi_syn hA hz _ hT).mono ?_; rintro e w1 ⟨n1, p1, rfl, hb1⟩)); try go_wp2_with (first | (go_at_call 26; refine (Atoi_syn hA hz _ hT).mono ?_; rintro e w1 ⟨n1, p1, rfl, hb1⟩)))
          go_ret2
          exact ⟨by first | rfl | (simp; done), by first | exact hb1.trans (hb2.mono hb1.size) | exact hb1.drew.trans (hb2.mono hb1.size) | exact (pw_below_drewN hb1 _).trans (hb2.mono hb1.size) | exact pw_below_drewN hb1 _ | exact hb1⟩
        | range =>
          rw [hA] at h
          dsimp only at h
          obtain ⟨rfl, rfl⟩ := Prod.mk.inj h
          go_wp2_with (first | (go_at_call 26; refine (Atoi_ran hA hz _ hT).mono ?_; rintro e w1 ⟨n1, p1, rfl, hb1⟩))
          repeat (first | go_quiet (first | (go_at_call 26; refine (Atoi_ran hA hz _ hT).mono ?_; rintro e w1 ⟨n1, p1, rfl, hb1⟩)); try go_wp2_with (first | (go_at_call 26; refine (Atoi_ran hA hz _ hT).mono ?_; rintro e w1 ⟨n1, p1, rfl, hb1⟩)))
          go_ret2
          exact ⟨by first | rfl | (simp; done), by first | exact hb1.trans (hb2.mono hb1.size) | exact hb1.drew.trans (hb2.mono hb1.size) | exact (pw_below_drewN hb1 _).trans (hb2.mono hb1.size) | exact pw_below_drewN hb1 _ | exact hb1⟩
    · have hd : dig a0 = x.toNat := by have := dig_uniq a0 x0 x1 HD.out (fun h => absurd h hlt); omega
      have p2 := eq_true x0
      have q2 := eq_true x1
      unfold rdn at h
      rw [hd, show ((x.toNat : Nat) : Int) = x from by omega] at h
      have hz : (a0.extract 0 x.toNat).size ≤ 1000000000 := by rw [ByteArray.size_extract]; omega
      cases hA : Lib.atoiAll (a0.extract 0 x.toNat).data.toList with
      | ok v =>
        rw [hA] at h
        dsimp only at h
        have hr := atoi_range hA
        have hT2 : (a0.extract 0 x.toNat).toList = (a0.extract 0 x.toNat).data.toList := ByteArray.toList_eq _
        by_cases e : Lib.itoa v = (a0.extract 0 x.toNat).data.toList
        · rw [if_pos e] at h
          obtain ⟨rfl, rfl⟩ := Prod.mk.inj h
          have HE := Aside0.mk e
          have HT2 := Aside0.mk hT2
          clear e h hT2
          go_wp2_with (first | (go_at_call 26; refine (Atoi_ok hA hz _).mono ?_; rintro e w1 ⟨rfl, hb1⟩) | (go_at_call 27; refine (Itoa_w hr.1 hr.2 _ (hT.below hb1)).mono ?_; rintro e w2 ⟨rfl, hb2⟩))
          go_region_with (first | (go_at_call 27; refine (Itoa_w hr.1 hr.2 _ (by first | exact hT.below hb1 | exact (hT.below hb1).drew | exact (hT.below hb1).drewN _)).mono ?_; rintro e w2 ⟨rfl, hb2⟩))
          all_goals go_wp2
          all_goals first
            | (rename_i hh; rw [HE.out, HT2.out] at hh; simp at hh; done)
            | (go_ret2; exact ⟨by first | rfl | (simp; done), by first | exact hb1.trans (hb2.mono hb1.size) | exact hb1.drew.trans (hb2.mono hb1.size) | exact (pw_below_drewN hb1 _).trans (hb2.mono hb1.size)⟩)
        · rw [if_neg e] at h
          obtain ⟨rfl, rfl⟩ := Prod.mk.inj h
          have HE := Aside0.mk e
          have HT2 := Aside0.mk hT2
          clear e h hT2
          go_wp2_with (first | (go_at_call 26; refine (Atoi_ok hA hz _).mono ?_; rintro e w1 ⟨rfl, hb1⟩) | (go_at_call 27; refine (Itoa_w hr.1 hr.2 _ (hT.below hb1)).mono ?_; rintro e w2 ⟨rfl, hb2⟩))
          go_region_with (first | (go_at_call 27; refine (Itoa_w hr.1 hr.2 _ (by first | exact hT.below hb1 | exact (hT.below hb1).drew | exact (hT.below hb1).drewN _)).mono ?_; rintro e w2 ⟨rfl, hb2⟩))
          all_goals go_wp2
          all_goals first
            | (rename_i hh; rw [HT2.out] at hh; exact (ne_clash HE.out hh).elim)
            | (go_ret2; exact ⟨by first | rfl | (simp; done), by first | exact hb1.trans (hb2.mono hb1.size) | exact hb1.drew.trans (hb2.mono hb1.size) | exact (pw_below_drewN hb1 _).trans (hb2.mono hb1.size)⟩)
      | «syntax» =>
        rw [hA] at h
        dsimp only at h
        obtain ⟨rfl, rfl⟩ := Prod.mk.inj h
        go_wp2_with (first | (go_at_call 26; refine (Atoi_syn hA hz _ hT).mono ?_; rintro e w1 ⟨n1, p1, rfl, hb1⟩))
        repeat (first | go_quiet (first | (go_at_call 26; refine (Atoi_syn hA hz _ hT).mono ?_; rintro e w1 ⟨n1, p1, rfl, hb1⟩)); try go_wp2_with (first | (go_at_call 26; refine (Atoi_syn hA hz _ hT).mono ?_; rintro e w1 ⟨n1, p1, rfl, hb1⟩)))
        go_ret2
        exact ⟨by first | rfl | (simp; done), by first | exact hb1.trans (hb2.mono hb1.size) | exact hb1.drew.trans (hb2.mono hb1.size) | exact (pw_below_drewN hb1 _).trans (hb2.mono hb1.size) | exact pw_below_drewN hb1 _ | exact hb1⟩
      | range =>
        rw [hA] at h
        dsimp only at h
        obtain ⟨rfl, rfl⟩ := Prod.mk.inj h
        go_wp2_with (first | (go_at_call 26; refine (Atoi_ran hA hz _ hT).mono ?_; rintro e w1 ⟨n1, p1, rfl, hb1⟩))
        repeat (first | go_quiet (first | (go_at_call 26; refine (Atoi_ran hA hz _ hT).mono ?_; rintro e w1 ⟨n1, p1, rfl, hb1⟩)); try go_wp2_with (first | (go_at_call 26; refine (Atoi_ran hA hz _ hT).mono ?_; rintro e w1 ⟨n1, p1, rfl, hb1⟩)))
        go_ret2
        exact ⟨by first | rfl | (simp; done), by first | exact hb1.trans (hb2.mono hb1.size) | exact hb1.drew.trans (hb2.mono hb1.size) | exact (pw_below_drewN hb1 _).trans (hb2.mono hb1.size) | exact pw_below_drewN hb1 _ | exact hb1⟩
end Go.Proofs.YtmpdbcmbchejmaaDoor.X
