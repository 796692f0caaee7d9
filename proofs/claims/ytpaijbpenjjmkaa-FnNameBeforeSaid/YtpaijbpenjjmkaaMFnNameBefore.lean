/- For every code, the law on NameBefore answers true: the text before the place ends with it; the byte before it is no letter or digit. Conditions: none. -/
import Derived.Test.YtpaijbpenjjmkaaX3
import Derived.Test.YtpaijbpenjjmkaaX6
import Derived.Test.YtpaijbpenjjmkaaX8
import Derived.Test.YtpaijbpenjjmkaaEvA
import Derived.Test.YtpaijbpenjjmkaaEvS
import Derived.Test.YtpaijbpenjjmkaaThC
import Derived.Test.YtpaijbpenjjmkaaX7
import Derived.Test.YtpaijbpenjjmkaaWMore
import Derived.Test.YtpaijbpenjjmkaaWp
import Derived.Test.YtpaijbpenjjmkaaX10
import Derived.Test.YtpaijbpenjjmkaaX15
/- What the printed functions answer, part N: classes of bytes, names before places. -/
namespace Go.Proofs.Ytpaijbpenjjmkaa.Ev
open Go.RowKit Go.Proofs.Ytpaijbpenjjmkaa.X Go.Proofs.Ytpaijbpenjjmkaa.Wp Go.Proofs.YtpaijbpenjjmkaaW.PrintWords Go.Proofs.Ytpaijbpenjjmkaa.ThC
set_option linter.unusedVariables false
set_option linter.unusedSimpArgs false

theorem kindW (c : Int) : W (fun k => spec_l8Kind.f k c) (· = cls c) := by
  unfold spec_l8Kind.f
  have yes : c = 32 ∨ c = 10 → W (fun k => spec_l8Kind.j0 k c true) (· = cls c) := fun h =>
    W.step (fun k => spec_l8Kind.j0.eq_2 ..) (W.pos rfl (W.ret (by unfold cls; rw [if_pos h])))
  refine W.ite (fun h => yes (.inl h)) (fun h => ?_)
  by_cases h10 : c = 10
  · rw [show (c == 10) = true from by simpa using h10]; exact yes (.inr h10)
  · rw [show (c == 10) = false from by simpa using h10]
    refine W.step (fun k => spec_l8Kind.j0.eq_2 ..) (W.neg (by decide) ?_)
    by_cases a : (48 ≤ c ∧ c ≤ 57) ∨ (97 ≤ c ∧ c ≤ 122) ∨ (65 ≤ c ∧ c ≤ 90)
    · rw [show cls c = 1 from by unfold cls; rw [if_neg (by omega), if_pos a]]
      repeat' (first | exact W.ret rfl | (exfalso; omega) | refine W.ite (fun _ => ?_) (fun _ => ?_))
    · rw [show cls c = 2 from by unfold cls; rw [if_neg (by omega), if_neg a]]
      repeat' (first | exact W.ret rfl | (exfalso; omega) | refine W.ite (fun _ => ?_) (fun _ => ?_))
theorem classW (c : Int) : W (fun k => impl_class.f k c) (· = cls c) := by
  unfold impl_class.f
  have yes : c = 32 ∨ c = 10 → W (fun k => impl_class.j0 k c true) (· = cls c) := fun h =>
    W.step (fun k => impl_class.j0.eq_2 ..) (W.pos rfl (W.ret (by unfold cls; rw [if_pos h])))
  refine W.ite (fun h => yes (.inl h)) (fun h => ?_)
  by_cases h10 : c = 10
  · rw [show (c == 10) = true from by simpa using h10]; exact yes (.inr h10)
  · rw [show (c == 10) = false from by simpa using h10]
    refine W.step (fun k => impl_class.j0.eq_2 ..) (W.neg (by decide) ?_)
    by_cases a : (48 ≤ c ∧ c ≤ 57) ∨ (97 ≤ c ∧ c ≤ 122) ∨ (65 ≤ c ∧ c ≤ 90)
    · rw [show cls c = 1 from by unfold cls; rw [if_neg (by omega), if_pos a]]
      repeat' (first | exact W.ret rfl | (exfalso; omega) | refine W.ite (fun _ => ?_) (fun _ => ?_))
    · rw [show cls c = 2 from by unfold cls; rw [if_neg (by omega), if_neg a]]
      repeat' (first | exact W.ret rfl | (exfalso; omega) | refine W.ite (fun _ => ?_) (fun _ => ?_))

/-- Where the bytes of a class before p begin. -/
def back (s : ByteArray) (of : Int) : Nat → Nat
  | 0 => 0
  | n + 1 => if cls (bt s n) = of then back s of n else n + 1
theorem back_le (s : ByteArray) (of : Int) : ∀ n, back s of n ≤ n
  | 0 => Nat.le_refl _
  | n + 1 => by
    unfold back
    split
    · have := back_le s of n; omega
    · omega
theorem back_stop (s : ByteArray) (of : Int) : ∀ (n : Nat), 0 < back s of n → cls (bt s ((back s of n : Int) - 1)) ≠ of
  | 0 => fun h => by simp [back] at h
  | n + 1 => fun h => by
    unfold back at h ⊢
    split
    · rename_i hc
      rw [if_pos hc] at h
      exact back_stop s of n h
    · rename_i hc
      rw [show ((n + 1 : Nat) : Int) - 1 = n from by omega]
      exact hc

theorem implBack (s : ByteArray) (p of : Int) (h0 : 0 ≤ p) (hp : p ≤ s.size) (hs : s.size ≤ 140737488351232) : W (fun k => impl_skipBack.f k s p of) (fun r => r = back s of p.toNat) := by
  unfold impl_skipBack.f
  have key := W.loop (l := fun (n : Nat) k => impl_skipBack.l0 k s n of) (P := fun n r => r = back s of n) (fun n : Nat => n ≤ s.size) (fun n => n) (by
    intro n hn ih
    refine W.step (fun k => impl_skipBack.l0.eq_2 ..) ?_
    cases n with
    | zero => exact W.neg (by simp) (W.ret (by simp [back]))
    | succ n =>
      rw [w64 (x := ((n + 1 : Nat) : Int) - 1) (by omega) (by omega), show ((n + 1 : Nat) : Int) - 1 = n from by omega]
      refine W.pos (by omega) (W.pos (by omega) (W.pos (by omega) (W.bind_eq (classW _) (W.ite (fun hc => ?_) (fun hc => ?_)))))
      · have := ih n (by omega) (by omega)
        refine this.mono fun r hr => ?_
        rw [hr]; simp [back, hc]
      · refine W.ret ?_
        simp [back, hc]) p.toNat (by omega)
  rw [show ((p.toNat : Nat) : Int) = p from by omega] at key
  exact key

/-- The name before a place. -/
def nameBefore (s : ByteArray) (p : Int) : ByteArray := s.extract (back s 1 p.toNat) p.toNat

theorem implName (s : ByteArray) (p : Int) (hs : s.size ≤ 140737488351232) : W (fun k => impl_NameBefore.f k s p) (fun r => r = if VT s ∧ 0 ≤ p ∧ p ≤ s.size then nameBefore s p else ⟨#[]⟩) := by
  unfold impl_NameBefore.f
  refine W.bind (implPlace s p hs) (fun b hb => W.ite (fun h => ?_) (fun h => ?_))
  · have hv := hb.1 h
    have hle := back_le s 1 p.toNat
    rw [if_pos hv]
    refine W.bind_eq (implBack s p 1 hv.2.1 hv.2.2 hs) (W.pos (by omega) (W.pos (by omega) (W.pos (by omega) (W.ret ?_))))
    unfold nameBefore
    rw [Int.toNat_natCast]
  · rw [if_neg (fun hv => h (hb.2 hv))]
    exact W.ret rfl

theorem specName (s : ByteArray) (p : Int) (hs : s.size ≤ 140737488351232) : W (fun k => spec_NameBefore.f k s p) (fun r => r = if VT s ∧ 0 ≤ p ∧ p ≤ s.size then nameBefore s p else ⟨#[]⟩) := by
  unfold spec_NameBefore.f
  have out : ¬ (VT s ∧ 0 ≤ p ∧ p ≤ s.size) → W (fun k => spec_NameBefore.j0 k s p true) (fun r => r = if VT s ∧ 0 ≤ p ∧ p ≤ s.size then nameBefore s p else ⟨#[]⟩) := fun hv => by
    rw [if_neg hv]
    exact W.step (fun k => spec_NameBefore.j0.eq_2 ..) (W.pos rfl (W.ret rfl))
  refine W.bind (specTV s hs) (fun b hb => W.ite (fun h => W.call (l1In_eq ..) ?_) (fun h => out (fun hv => h (hb.2 hv.1))))
  by_cases hp : 0 ≤ p ∧ p ≤ s.size
  · have hv := hb.1 h
    rw [if_pos ⟨hv, hp⟩, show (!decide (0 ≤ p ∧ p ≤ (s.size : Int))) = false from by rw [decide_eq_true hp]; rfl]
    refine W.step (fun k => spec_NameBefore.j0.eq_2 ..) (W.neg (by decide) ?_)
    have key := W.loop (l := fun (n : Nat) k => spec_NameBefore.l0 k s p n) (P := fun n r => r = s.extract (back s 1 n) p.toNat) (fun n : Nat => (n : Int) ≤ p) (fun n => n) (by
      intro n hn ih
      refine W.step (fun k => spec_NameBefore.l0.eq_2 ..) ?_
      cases n with
      | zero => exact W.neg (by simp) (W.pos (by simp) (W.pos (by omega) (W.pos (by omega) (W.ret (by simp [back])))))
      | succ n =>
        rw [w64 (x := ((n + 1 : Nat) : Int) - 1) (by omega) (by omega), show ((n + 1 : Nat) : Int) - 1 = n from by omega]
        refine W.pos (by omega) (W.pos (by omega) (W.pos (by omega) (W.bind_eq (kindW _) (W.ite (fun hc => ?_) (fun hc => ?_)))))
        · have := ih n (by omega) (by omega)
          refine this.mono fun r hr => ?_
          rw [hr]; simp [back, hc]
        · refine W.pos (by omega) (W.pos (by omega) (W.pos (by omega) (W.ret ?_)))
          rw [Int.toNat_natCast]; simp [back, hc]) p.toNat (by omega)
    rw [show ((p.toNat : Nat) : Int) = p from by omega] at key
    exact key
  · rw [show (!decide (0 ≤ p ∧ p ≤ (s.size : Int))) = true from by rw [decide_eq_false hp]; rfl]
    exact out (fun hv => hp hv.2)
end Go.Proofs.Ytpaijbpenjjmkaa.Ev
/- What the printed functions answer, part L: 'alive'. -/
namespace Go.Proofs.Ytpaijbpenjjmkaa.Ev
open Go.RowKit Go.Proofs.Ytpaijbpenjjmkaa.X Go.Proofs.Ytpaijbpenjjmkaa.Wp Go.Proofs.YtpaijbpenjjmkaaW.PrintWords
set_option linter.unusedVariables false
set_option linter.unusedSimpArgs false

theorem aliveW : W (fun k => laws_alive.f k) (· = true) := by
  have hv : VT (⟨#[97, 10, 98]⟩ : ByteArray) := by
    refine ⟨by decide, fun j h0 h1 => ?_⟩
    have h3 : ((⟨#[97, 10, 98]⟩ : ByteArray).size : Int) = 3 := rfl
    have : j = 0 ∨ j = 1 ∨ j = 2 := by omega
    rcases this with rfl | rfl | rfl
    · right; decide
    · left; rfl
    · right; decide
  unfold laws_alive.f impl_LineMany.f
  refine W.bind_eq (a := 2) (W.bind_eq (tv_pos (implTV _ (by decide)) hv) (W.pos rfl (W.call (r := 1) rfl (W.ret ?_)))) (W.ret rfl)
  exact w64 (by omega) (by omega)
theorem alive_then : W (fun k => (laws_alive.f k).bind fun t => some t) (· = true) := W.bind_eq aliveW (W.ret rfl)
end Go.Proofs.Ytpaijbpenjjmkaa.Ev
/- Reading lists. -/
namespace Go.Proofs.Ytpaijbpenjjmkaa.Ev
open Go.RowKit Go.Proofs.YtpaijbpenjjmkaaW.PrintWords
theorem rd_take' (xs : List Int) (n : Nat) {i : Int} (h0 : 0 ≤ i) (h : i < n) : rd (xs.take n) i = rd xs i := by
  unfold rd
  rw [List.getD_eq_getElem?_getD, List.getD_eq_getElem?_getD, List.getElem?_take, if_pos (by omega)]
end Go.Proofs.Ytpaijbpenjjmkaa.Ev
/- What the printed functions answer, part D: drawn texts. They end, and what they draw is short. -/
namespace Go.Proofs.Ytpaijbpenjjmkaa.Ev
open Go.RowKit Go.Proofs.Ytpaijbpenjjmkaa.X Go.Proofs.Ytpaijbpenjjmkaa.Wp Go.Proofs.YtpaijbpenjjmkaaW.PrintWords
set_option linter.unusedVariables false
set_option linter.unusedSimpArgs false

/-- A reader's bytes. -/
def RB (b : List Int) : Prop := ∀ j : Int, 0 ≤ j → j < b.length → 0 ≤ rd b j ∧ rd b j ≤ 255
theorem RB_of {l : List Int} (h : ∀ x ∈ l, (Lit.int .u8 x).wf = true) : RB l := by
  intro j h0 h1
  have hm : rd l j ∈ l := by
    unfold rd
    rw [List.getD_eq_getElem?_getD, List.getElem?_eq_getElem (by omega)]
    exact List.getElem_mem _
  have := h _ hm
  simp [Lit.wf, IntKind.min, IntKind.max, IntKind.signed, IntKind.bits] at this
  omega
theorem RB_take {l : List Int} (h : RB l) (n : Nat) : RB (l.take n) := by
  intro j h0 h1
  rw [List.length_take] at h1
  rw [rd_take' l n h0 (by omega)]
  exact h j h0 (by omega)

theorem xor_nonneg {a b : Int} (a0 : 0 ≤ a) (a1 : a < 4611686018427387904) (b0 : 0 ≤ b) (b1 : b < 4611686018427387904) : 0 ≤ Go.bits .xor .i64 a b := by
  obtain ⟨x, rfl⟩ := Int.eq_ofNat_of_zero_le a0
  obtain ⟨y, rfl⟩ := Int.eq_ofNat_of_zero_le b0
  have hx : x < 2 ^ 62 := by omega
  have hy : y < 2 ^ 62 := by omega
  have h := Nat.xor_lt_two_pow hx hy
  simp only [Go.bits, BitVec.ofInt_natCast, BitVec.toNat_xor, BitVec.toNat_ofNat]
  rw [Nat.mod_eq_of_lt (show x < 2 ^ IntKind.i64.bits from Nat.lt_of_lt_of_le hx (by decide)), Nat.mod_eq_of_lt (show y < 2 ^ IntKind.i64.bits from Nat.lt_of_lt_of_le hy (by decide))]
  show 0 ≤ IntKind.i64.wrap ((x ^^^ y : Nat) : Int)
  rw [IntKind.wrap_i64]
  omega

theorem tmod_in {a n : Int} (h0 : 0 ≤ a) (h1 : 0 < n) : 0 ≤ Int.tmod a n ∧ Int.tmod a n < n := by
  rw [Int.tmod_eq_emod_of_nonneg h0]
  exact ⟨Int.emod_nonneg _ (by omega), Int.emod_lt_of_pos _ h1⟩

theorem pickW {b : List Int} {p n : Int} (hb : RB b) (hp : 0 ≤ p) (hp2 : p ≤ 1000000000) (hn : n ≤ 1000000000) : W (fun k => spec_l20Rd_pick.f k b p n) (fun r => 0 ≤ r.1 ∧ (r.1 < n ∨ r.1 = 0) ∧ r.2 = p + 1) := by
  unfold spec_l20Rd_pick.f
  rw [w64 (x := p + 1) (by omega) (by omega)]
  have zero : W (fun k => spec_l20Rd_pick.j0 k n true b (p + 1)) (fun r => 0 ≤ r.1 ∧ (r.1 < n ∨ r.1 = 0) ∧ r.2 = p + 1) :=
    W.step (fun k => spec_l20Rd_pick.j0.eq_2 ..) (W.pos rfl (W.ret ⟨by simp, .inr rfl, rfl⟩))
  refine W.ite (fun _ => zero) (fun hn1 => ?_)
  by_cases hl : (b.length : Int) = 0
  · rw [show ((b.length : Int) == 0) = true from by simpa using hl]
    exact zero
  · rw [show ((b.length : Int) == 0) = false from by simpa using hl]
    refine W.step (fun k => spec_l20Rd_pick.j0.eq_2 ..) (W.neg (by decide) ?_)
    rw [w64 (x := p + 1 - 1) (by omega) (by omega), show p + 1 - 1 = p from by omega]
    refine W.ite (fun hlt => W.pos hp (W.neg (by omega) ?_)) (fun hge => W.neg hl ?_)
    · have h := hb p hp hlt
      rw [w64 (x := rd b p) (by omega) (by omega)]
      have := tmod_in (a := rd b p) (n := n) h.1 (by omega)
      exact W.ret ⟨this.1, .inl this.2, rfl⟩
    · rw [w64 (x := p * 7) (by omega) (by omega), w64 (x := p * 7 + 3) (by omega) (by omega), w64 (x := p * 29) (by omega) (by omega)]
      have i1 := tmod_in (a := p) (n := (b.length : Int)) hp (by omega)
      have i2 := tmod_in (a := p * 7 + 3) (n := (b.length : Int)) (by omega) (by omega)
      have h1 := hb _ i1.1 i1.2
      have h2 := hb _ i2.1 i2.2
      have q1 : 0 ≤ Int.tdiv p (b.length : Int) ∧ Int.tdiv p (b.length : Int) ≤ p := by
        rw [Int.tdiv_eq_ediv_of_nonneg hp]
        exact ⟨Int.ediv_nonneg hp (by omega), Int.ediv_le_self _ hp⟩
      refine W.pos i1.1 (W.pos i1.2 (W.pos i2.1 (W.pos i2.2 (W.neg (by omega) ?_))))
      obtain ⟨u, hu⟩ : ∃ u, u = rd b (Int.tmod p (b.length : Int)) := ⟨_, rfl⟩
      obtain ⟨v, hv⟩ : ∃ v, v = rd b (Int.tmod (p * 7 + 3) (b.length : Int)) := ⟨_, rfl⟩
      obtain ⟨q, hq⟩ : ∃ q, q = Int.tdiv p (b.length : Int) := ⟨_, rfl⟩
      rw [← hu] at h1
      rw [← hv] at h2
      rw [← hq] at q1
      rw [← hu, ← hv, ← hq]
      rw [w64 (x := u) (by omega) (by omega), w64 (x := v) (by omega) (by omega), w64 (x := q) (by omega) (by omega), w64 (x := u * 131) (by omega) (by omega), w64 (x := v * 1117) (by omega) (by omega), w64 (x := q * 53) (by omega) (by omega),
        w64 (x := u * 131 + v * 1117) (by omega) (by omega), w64 (x := u * 131 + v * 1117 + p * 29) (by omega) (by omega), w64 (x := u * 131 + v * 1117 + p * 29 + q * 53) (by omega) (by omega)]
      obtain ⟨x, hx⟩ : ∃ x, x = u * 131 + v * 1117 + p * 29 + q * 53 := ⟨_, rfl⟩
      have x0 : 0 ≤ x ∧ x ≤ 1000000000000 := by omega
      rw [← hx]
      have x1 : 0 ≤ Int.tdiv x 64 ∧ Int.tdiv x 64 ≤ x := by
        rw [Int.tdiv_eq_ediv_of_nonneg x0.1]
        omega
      rw [w64 (x := Int.tdiv x 64) (by omega) (by omega)]
      have := tmod_in (n := n) (xor_nonneg (a := x) (b := Int.tdiv x 64) (by omega) (by omega) (by omega) (by omega)) (by omega)
      exact W.ret ⟨this.1, .inl this.2, rfl⟩

theorem oddW {b : List Int} {p n : Int} (hb : RB b) (hp : 0 ≤ p) (hp2 : p ≤ 1000000000) (hn : n ≤ 1000000000) : W (fun k => spec_l20Rd_odd.f k b p n) (fun r => p ≤ r.2 ∧ r.2 ≤ p + 1) := by
  unfold spec_l20Rd_odd.f
  refine W.ite (fun _ => W.bind (pickW hb hp hp2 hn) (fun a ha => W.ret ?_)) (fun _ => W.ret (by dsimp only; omega))
  dsimp only; omega

theorem rdOf_size {parts : List ByteArray} {m : Nat} (h : ∀ x ∈ parts, x.size ≤ m) (i : Int) : (rdOf ByteArray.empty parts i).size ≤ m := by
  unfold rdOf
  rw [List.getD_eq_getElem?_getD]
  cases hx : parts[i.toNat]? with
  | none => simp
  | some y => exact h y (List.mem_of_getElem? hx)

theorem textW {b : List Int} {p n : Int} (hb : RB b) (hp : 0 ≤ p) (hp2 : p ≤ 1000000) (hn : n ≤ 1000000000) : W (fun k => spec_l20Text.f k b p n) (fun r => r.1.size ≤ 125 ∧ p ≤ r.2 ∧ r.2 ≤ p + 30) := by
  unfold spec_l20Text.f
  refine W.bind (pickW hb hp (by omega) (by omega)) (fun a ha => ?_)
  obtain ⟨a1, a2⟩ := a
  dsimp only at ha ⊢
  obtain ⟨parts, hparts, hlen, hsz⟩ : ∃ parts : List ByteArray, parts = [(⟨#[97]⟩ : ByteArray), (⟨#[98]⟩ : ByteArray), (⟨#[97, 98]⟩ : ByteArray), (⟨#[119, 111, 114, 100]⟩ : ByteArray), (⟨#[120, 49]⟩ : ByteArray), (⟨#[32]⟩ : ByteArray), (⟨#[32]⟩ : ByteArray), (⟨#[32, 32]⟩ : ByteArray), (⟨#[10]⟩ : ByteArray), (⟨#[10]⟩ : ByteArray), (⟨#[10, 32, 32]⟩ : ByteArray), (⟨#[40]⟩ : ByteArray), (⟨#[41]⟩ : ByteArray), (⟨#[91, 97, 93]⟩ : ByteArray), (⟨#[123, 99, 125]⟩ : ByteArray), (⟨#[123]⟩ : ByteArray), (⟨#[125]⟩ : ByteArray), (⟨#[46]⟩ : ByteArray), (⟨#[34]⟩ : ByteArray), (⟨#[34, 115, 34]⟩ : ByteArray), (⟨#[55]⟩ : ByteArray), (⟨#[102, 111, 111, 32, 98, 97, 114]⟩ : ByteArray), (⟨#[92]⟩ : ByteArray), (⟨#[97, 97]⟩ : ByteArray)] ∧ parts.length = 24 ∧ ∀ x ∈ parts, x.size ≤ 7 := ⟨_, rfl, rfl, by
    intro x hx
    simp only [List.mem_cons, List.mem_nil_iff, or_false] at hx
    rcases hx with rfl | rfl | rfl | rfl | rfl | rfl | rfl | rfl | rfl | rfl | rfl | rfl | rfl | rfl | rfl | rfl | rfl | rfl | rfl | rfl | rfl | rfl | rfl | rfl <;> decide⟩
  rw [← hparts]
  have last : ∀ (s : ByteArray) (q : Int), s.size ≤ 125 → p ≤ q → q ≤ p + 30 → W (fun k => spec_l20Text.l1 k s b q) (fun r => r.1.size ≤ 125 ∧ p ≤ r.2 ∧ r.2 ≤ p + 30) := by
    intro s q hs h0 h1
    refine W.loop (l := fun s k => spec_l20Text.l1 k s b q) (P := fun _ r => r.1.size ≤ 125 ∧ p ≤ r.2 ∧ r.2 ≤ p + 30) (fun s : ByteArray => s.size ≤ 125) (fun s => 121 - s.size) ?_ s hs
    intro s hs ih
    refine W.step (fun k => spec_l20Text.l1.eq_2 ..) (W.ite (fun h => W.pos (by omega) (ih _ ?_ ?_)) (fun h => W.ret ⟨hs, h0, h1⟩))
    · rw [ByteArray.size_append]; show s.size + 5 ≤ 125; omega
    · rw [ByteArray.size_append]; show 121 - (s.size + 5) < 121 - s.size; omega
  refine W.loop (l := fun (z : ByteArray × Int × Int) k => spec_l20Text.l0 k n z.1 parts z.2.1 b z.2.2) (P := fun _ r => r.1.size ≤ 125 ∧ p ≤ r.2 ∧ r.2 ≤ p + 30) (fun z => z.1.size + 7 * z.2.1 ≤ 161 ∧ z.2.1 ≤ 23 ∧ -1 ≤ z.2.1 ∧ p ≤ z.2.2 ∧ z.2.2 + z.2.1 ≤ p + 24) (fun z => z.2.1.toNat) ?_ (⟨#[]⟩, a1, a2) ⟨by show 0 + 7 * a1 ≤ 161; omega, by dsimp only; omega, by dsimp only; omega, by dsimp only; omega, by dsimp only; omega⟩
  rintro ⟨s, c, q⟩ ⟨h1, h2, h3, h4, h5⟩ ih
  dsimp only at h1 h2 h3 h4 h5 ⊢
  refine W.step (fun k => spec_l20Text.l0.eq_2 ..) (W.ite (fun hc => ?_) (fun hc => ?_))
  · refine W.bind (pickW hb (by omega) (by omega) (by omega)) (fun d hd => ?_)
    have hr := rdOf_size hsz d.1
    rw [w64 (x := c - 1) (by omega) (by omega)]
    refine W.pos hd.1 (W.pos (by omega) (W.pos (by omega) (ih (_, c - 1, d.2) ⟨?_, ?_, ?_, ?_, ?_⟩ ?_)))
    · dsimp only; rw [ByteArray.size_append]; omega
    all_goals (dsimp only; omega)
  · have hmn : mn (s.size : Int) 120 ≤ s.size ∧ 0 ≤ mn (s.size : Int) 120 ∧ mn (s.size : Int) 120 ≤ 120 := by unfold mn; split <;> omega
    have hsz2 : (s.extract 0 (mn (s.size : Int) 120).toNat).size ≤ 120 := by rw [ByteArray.size_extract]; omega
    refine W.pos hmn.2.1 (W.pos hmn.1 (W.bind (oddW hb (by omega) (by omega) hn) (fun o ho => W.ite (fun _ => ?_) (fun _ => W.ret ⟨by dsimp only; omega, by dsimp only; omega, by dsimp only; omega⟩))))
    refine W.bind (pickW hb (by omega) (by omega) (by omega)) (fun d hd => W.ite (fun _ => W.pos (by omega) (W.ret ⟨?_, by dsimp only; omega, by dsimp only; omega⟩)) (fun _ => W.ite (fun _ => W.pos (by omega) (W.ret ⟨?_, by dsimp only; omega, by dsimp only; omega⟩)) (fun _ => last _ _ (by omega) (by omega) (by omega))))
    · dsimp only; rw [ByteArray.size_append]; show _ + 1 ≤ 125; omega
    · dsimp only; rw [ByteArray.size_append]; show _ + 1 ≤ 125; omega

theorem openW {l : List Int} (h : RB l) : ∃ b, spec_l20Open.f l = some (b, 0) ∧ RB b := by
  unfold spec_l20Open.f
  by_cases hl : (l.length : Int) > 2000
  · exact ⟨l.take 2000, by rw [if_pos hl, if_pos (by omega)], RB_take h _⟩
  · exact ⟨l, by rw [if_neg hl], h⟩
end Go.Proofs.Ytpaijbpenjjmkaa.Ev
/- What the printed functions answer, part DB: drawn texts with brackets, drawn places. -/
namespace Go.Proofs.Ytpaijbpenjjmkaa.Ev
open Go.RowKit Go.Proofs.Ytpaijbpenjjmkaa.X Go.Proofs.Ytpaijbpenjjmkaa.Wp Go.Proofs.YtpaijbpenjjmkaaW.PrintWords
set_option linter.unusedVariables false
set_option linter.unusedSimpArgs false

theorem placeW {b : List Int} {p n : Int} {s : ByteArray} (hb : RB b) (hp : 0 ≤ p) (hp2 : p ≤ 100000) (hn : n ≤ 1000000000) (hs : s.size ≤ 1000000) : W (fun k => spec_l20Place.f k b p s n) (fun r => (-1 ≤ r.1 ∧ r.1 ≤ s.size + 1) ∧ p ≤ r.2 ∧ r.2 ≤ p + 60) := by
  unfold spec_l20Place.f
  refine W.bind (oddW hb hp (by omega) hn) (fun o ho => W.ite (fun _ => W.name ?_) (fun _ => ?_))
  · rw [w64 (x := (s.size : Int) + 1) (by omega) (by omega)]
    refine W.bind (pickW hb (by omega) (by omega) (by omega)) (fun d hd => W.pos hd.1 (W.pos (by show d.1 < 2; omega) (W.ret ⟨?_, by dsimp only; omega, by dsimp only; omega⟩)))
    have : d.1 = 0 ∨ d.1 = 1 := by omega
    rcases this with e | e <;> rw [e] <;> (simp [rd]; try omega)
  · rw [w64 (x := (s.size : Int) + 1) (by omega) (by omega)]
    have hmn : mn 256 ((s.size : Int) + 1) ≤ s.size + 1 ∧ mn 256 ((s.size : Int) + 1) ≤ 256 := by unfold mn; split <;> omega
    refine W.bind (pickW hb (by omega) (by omega) (by omega)) (fun d hd => W.name (W.name ?_))
    refine W.bind (pickW hb (by omega) (by omega) (by omega)) (fun e he => W.pos he.1 (W.pos (by show e.1 < 6; omega) ?_))
    have h6 : rd [0, 0, 0, 0, 1, 2] e.1 = 0 ∨ rd [0, 0, 0, 0, 1, 2] e.1 = 1 ∨ rd [0, 0, 0, 0, 1, 2] e.1 = 2 := by
      have : e.1 = 0 ∨ e.1 = 1 ∨ e.1 = 2 ∨ e.1 = 3 ∨ e.1 = 4 ∨ e.1 = 5 := by omega
      rcases this with e' | e' | e' | e' | e' | e' <;> rw [e'] <;> simp [rd]
    refine W.pos (by omega) (W.pos (by show rd [0, 0, 0, 0, 1, 2] e.1 < 3; omega) (W.ret ⟨?_, by dsimp only; omega, by dsimp only; omega⟩))
    rcases h6 with e' | e' | e' <;> dsimp only <;> rw [e']
    · show -1 ≤ d.1 ∧ d.1 ≤ s.size + 1; omega
    · show -1 ≤ (0 : Int) ∧ (0 : Int) ≤ s.size + 1; omega
    · show -1 ≤ (s.size : Int) ∧ (s.size : Int) ≤ s.size + 1; omega
end Go.Proofs.Ytpaijbpenjjmkaa.Ev
/- What the printed functions answer, part DS: drawn texts and places. -/
namespace Go.Proofs.Ytpaijbpenjjmkaa.Ev
open Go.RowKit Go.Proofs.Ytpaijbpenjjmkaa.X Go.Proofs.Ytpaijbpenjjmkaa.Wp Go.Proofs.YtpaijbpenjjmkaaW.PrintWords
set_option linter.unusedVariables false
set_option linter.unusedSimpArgs false

theorem spotW {b : List Int} {p : Int} (hb : RB b) (hp : 0 ≤ p) (hp2 : p ≤ 1000) : W (fun k => spec_l20Spot.f k b p) (fun r => r.1.size ≤ 125 ∧ -1 ≤ r.2.1 ∧ r.2.1 ≤ r.1.size + 1 ∧ 0 ≤ r.2.2 ∧ r.2.2 ≤ 2000) := by
  unfold spec_l20Spot.f
  refine W.bind (textW hb hp (by omega) (by omega)) (fun r hr => ?_)
  obtain ⟨s, q⟩ := r
  obtain ⟨hs, q0, q1⟩ := hr
  dsimp only at hs q0 q1 ⊢
  refine W.bind (placeW hb (by omega) (by omega) (by omega) (by omega)) (fun r hr => W.ret ⟨hs, hr.1.1, hr.1.2, by dsimp only; omega, by dsimp only; omega⟩)
theorem drawNB {l : List Int} (hw : ∀ x ∈ l, (Lit.int .u8 x).wf = true) : W (fun k => spec_DrawNameBefore.f k l) (fun r => r.1.size ≤ 125 ∧ -1 ≤ r.2 ∧ r.2 ≤ r.1.size + 1) := by
  obtain ⟨b, he, hb⟩ := openW (RB_of hw)
  unfold spec_DrawNameBefore.f
  exact W.call he (W.bind (spotW hb (Int.le_refl 0) (show (0 : Int) ≤ 1000 by decide)) (fun r hr => W.ret ⟨hr.1, hr.2.1, hr.2.2.1⟩))
end Go.Proofs.Ytpaijbpenjjmkaa.Ev
namespace Go.Proofs.Ytpaijbpenjjmkaa.Pure
open Go.RowKit Go.Proofs.Ytpaijbpenjjmkaa.X Go.Proofs.Ytpaijbpenjjmkaa.Wp Go.Proofs.Ytpaijbpenjjmkaa.Ev Go.Proofs.YtpaijbpenjjmkaaW.PrintWords
set_option linter.unusedVariables false
set_option linter.unusedSimpArgs false

theorem FnNameBefore : laws_FnNameBefore.Pure := by
  intro l _ _ hw
  refine W.rounds (r := true) ?_
  unfold laws_FnNameBefore.f
  refine W.ite (fun _ => W.ret rfl) (fun _ => W.bind (drawNB hw) (fun r hr => ?_))
  obtain ⟨s, p⟩ := r
  obtain ⟨hr, hp1, hp2⟩ := hr
  dsimp only at hr hp1 hp2 ⊢
  have hs : s.size ≤ 140737488351232 := by omega
  refine W.bind_eq (implName s p hs) (W.bind_eq (specName s p hs) (W.pos rfl ?_))
  have hplace : W (fun k => laws_placeOk.f k s p) (fun b => b = true ↔ VT s ∧ 0 ≤ p ∧ p ≤ s.size) := by
    unfold laws_placeOk.f
    refine W.bind (specTV s hs) (fun b hb => W.ite (fun h => W.ite (fun h2 => W.ret ?_) (fun h2 => W.ret ?_)) (fun h => W.ret ?_))
    · simp only [decide_eq_true_eq]
      exact ⟨fun h3 => ⟨hb.1 h, h2, h3⟩, fun h3 => h3.2.2⟩
    · exact ⟨fun h3 => by simp at h3, fun h3 => absurd h3.2.1 h2⟩
    · exact ⟨fun h3 => by simp at h3, fun h3 => absurd (hb.2 h3.1) h⟩
  refine W.bind hplace (fun b hb => W.ite (fun h => ?_) (fun h => ?_))
  · have hv := hb.1 h
    rw [if_pos hv]
    have hle := back_le s 1 p.toNat
    have hz : (nameBefore s p).size = p.toNat - back s 1 p.toNat := by unfold nameBefore; rw [ByteArray.size_extract]; omega
    rw [w64 (x := p - ((nameBefore s p).size : Int)) (by omega) (by omega), show p - ((nameBefore s p).size : Int) = (back s 1 p.toNat : Nat) from by omega, Int.toNat_natCast]
    refine W.pos (by omega) (W.pos (by omega) (W.pos (by omega) (W.pos hv.2.2 (W.pos rfl (W.ite (fun _ => W.ret rfl) (fun hne => W.bind_eq (implName s _ hs) (W.ret ?_)))))))
    rw [if_pos ⟨hv.1, by omega, by omega⟩]
    have hst := back_stop s 1 p.toNat (by omega)
    have hb0 : back s 1 (back s 1 p.toNat) = back s 1 p.toNat := by
      obtain ⟨m, hm⟩ : ∃ m, back s 1 p.toNat = m + 1 := ⟨back s 1 p.toNat - 1, by omega⟩
      rw [hm] at hst ⊢
      rw [show ((m + 1 : Nat) : Int) - 1 = m from by omega] at hst
      unfold back
      rw [if_neg hst]
    have : (nameBefore s (back s 1 p.toNat : Nat)).size = 0 := by
      unfold nameBefore
      rw [Int.toNat_natCast, hb0, ByteArray.size_extract]; omega
    rw [beq_iff_eq, toList_data]
    have hl : (nameBefore s (back s 1 p.toNat : Nat)).data.toList.length = 0 := by rw [Array.length_toList]; exact this
    exact List.eq_nil_of_length_eq_zero hl
  · rw [if_neg (fun hv => h (hb.2 hv))]
    exact W.pos (by rw [toList_data]) alive_then
end Go.Proofs.Ytpaijbpenjjmkaa.Pure
