/- What the printed functions answer, part D: drawn texts. They end, and what they draw is short. -/
import Derived.Test.YtbkdfiepdnbeoaaX6
import Derived.Test.YtbkdfiepdnbeoaaWp
import Derived.Test.YtbkdfiepdnbeoaaEvR
namespace Go.Proofs.Ytbkdfiepdnbeoaa.Ev
open Go.RowKit Go.Proofs.Ytbkdfiepdnbeoaa.X Go.Proofs.Ytbkdfiepdnbeoaa.Wp Go.Proofs.YtbkdfiepdnbeoaaW.PrintWords
set_option linter.unusedVariables false
set_option linter.unusedSimpArgs false

/-- A reader's bytes. -/
def RB (b : List Int) : Prop := ∀ j : Int, 0 ≤ j → j < b.length → 0 ≤ rd b j ∧ rd b j ≤ 255
theorem RB_of {l : List Int} (h : ∀ x ∈ l, (Lit.int .u8 x).wf = true) : RB l := by
  intro j h0 h1
  have hm : rd l j ∈ l := by
    unfold rd
    rw [List.getD_eq_getElem?_getD, List.getElem?_eq_getElem (by omega)]
    exact List.getElem_mem _
  have := h _ hm
  simp [Lit.wf, IntKind.min, IntKind.max, IntKind.signed, IntKind.bits] at this
  omega
theorem RB_take {l : List Int} (h : RB l) (n : Nat) : RB (l.take n) := by
  intro j h0 h1
  rw [List.length_take] at h1
  rw [rd_take' l n h0 (by omega)]
  exact h j h0 (by omega)

theorem xor_nonneg {a b : Int} (a0 : 0 ≤ a) (a1 : a < 4611686018427387904) (b0 : 0 ≤ b) (b1 : b < 4611686018427387904) : 0 ≤ Go.bits .xor .i64 a b := by
  obtain ⟨x, rfl⟩ := Int.eq_ofNat_of_zero_le a0
  obtain ⟨y, rfl⟩ := Int.eq_ofNat_of_zero_le b0
  have hx : x < 2 ^ 62 := by omega
  have hy : y < 2 ^ 62 := by omega
  have h := Nat.xor_lt_two_pow hx hy
  simp only [Go.bits, BitVec.ofInt_natCast, BitVec.toNat_xor, BitVec.toNat_ofNat]
  rw [Nat.mod_eq_of_lt (show x < 2 ^ IntKind.i64.bits from Nat.lt_of_lt_of_le hx (by decide)), Nat.mod_eq_of_lt (show y < 2 ^ IntKind.i64.bits from Nat.lt_of_lt_of_le hy (by decide))]
  show 0 ≤ IntKind.i64.wrap ((x ^^^ y : Nat) : Int)
  rw [IntKind.wrap_i64]
  omega

theorem tmod_in {a n : Int} (h0 : 0 ≤ a) (h1 : 0 < n) : 0 ≤ Int.tmod a n ∧ Int.tmod a n < n := by
  rw [Int.tmod_eq_emod_of_nonneg h0]
  exact ⟨Int.emod_nonneg _ (by omega), Int.emod_lt_of_pos _ h1⟩

theorem pickW {b : List Int} {p n : Int} (hb : RB b) (hp : 0 ≤ p) (hp2 : p ≤ 1000000000) (hn : n ≤ 1000000000) : W (fun k => spec_l20Rd_pick.f k b p n) (fun r => 0 ≤ r.1 ∧ (r.1 < n ∨ r.1 = 0) ∧ r.2 = p + 1) := by
  unfold spec_l20Rd_pick.f
  rw [w64 (x := p + 1) (by omega) (by omega)]
  have zero : W (fun k => spec_l20Rd_pick.j0 k n true b (p + 1)) (fun r => 0 ≤ r.1 ∧ (r.1 < n ∨ r.1 = 0) ∧ r.2 = p + 1) :=
    W.step (fun k => spec_l20Rd_pick.j0.eq_2 ..) (W.pos rfl (W.ret ⟨by simp, .inr rfl, rfl⟩))
  refine W.ite (fun _ => zero) (fun hn1 => ?_)
  by_cases hl : (b.length : Int) = 0
  · rw [show ((b.length : Int) == 0) = true from by simpa using hl]
    exact zero
  · rw [show ((b.length : Int) == 0) = false from by simpa using hl]
    refine W.step (fun k => spec_l20Rd_pick.j0.eq_2 ..) (W.neg (by decide) ?_)
    rw [w64 (x := p + 1 - 1) (by omega) (by omega), show p + 1 - 1 = p from by omega]
    refine W.ite (fun hlt => W.pos hp (W.neg (by omega) ?_)) (fun hge => W.neg hl ?_)
    · have h := hb p hp hlt
      rw [w64 (x := rd b p) (by omega) (by omega)]
      have := tmod_in (a := rd b p) (n := n) h.1 (by omega)
      exact W.ret ⟨this.1, .inl this.2, rfl⟩
    · rw [w64 (x := p * 7) (by omega) (by omega), w64 (x := p * 7 + 3) (by omega) (by omega), w64 (x := p * 29) (by omega) (by omega)]
      have i1 := tmod_in (a := p) (n := (b.length : Int)) hp (by omega)
      have i2 := tmod_in (a := p * 7 + 3) (n := (b.length : Int)) (by omega) (by omega)
      have h1 := hb _ i1.1 i1.2
      have h2 := hb _ i2.1 i2.2
      have q1 : 0 ≤ Int.tdiv p (b.length : Int) ∧ Int.tdiv p (b.length : Int) ≤ p := by
        rw [Int.tdiv_eq_ediv_of_nonneg hp]
        exact ⟨Int.ediv_nonneg hp (by omega), Int.ediv_le_self _ hp⟩
      refine W.pos i1.1 (W.pos i1.2 (W.pos i2.1 (W.pos i2.2 (W.neg (by omega) ?_))))
      obtain ⟨u, hu⟩ : ∃ u, u = rd b (Int.tmod p (b.length : Int)) := ⟨_, rfl⟩
      obtain ⟨v, hv⟩ : ∃ v, v = rd b (Int.tmod (p * 7 + 3) (b.length : Int)) := ⟨_, rfl⟩
      obtain ⟨q, hq⟩ : ∃ q, q = Int.tdiv p (b.length : Int) := ⟨_, rfl⟩
      rw [← hu] at h1
      rw [← hv] at h2
      rw [← hq] at q1
      rw [← hu, ← hv, ← hq]
      rw [w64 (x := u) (by omega) (by omega), w64 (x := v) (by omega) (by omega), w64 (x := q) (by omega) (by omega), w64 (x := u * 131) (by omega) (by omega), w64 (x := v * 1117) (by omega) (by omega), w64 (x := q * 53) (by omega) (by omega),
        w64 (x := u * 131 + v * 1117) (by omega) (by omega), w64 (x := u * 131 + v * 1117 + p * 29) (by omega) (by omega), w64 (x := u * 131 + v * 1117 + p * 29 + q * 53) (by omega) (by omega)]
      obtain ⟨x, hx⟩ : ∃ x, x = u * 131 + v * 1117 + p * 29 + q * 53 := ⟨_, rfl⟩
      have x0 : 0 ≤ x ∧ x ≤ 1000000000000 := by omega
      rw [← hx]
      have x1 : 0 ≤ Int.tdiv x 64 ∧ Int.tdiv x 64 ≤ x := by
        rw [Int.tdiv_eq_ediv_of_nonneg x0.1]
        omega
      rw [w64 (x := Int.tdiv x 64) (by omega) (by omega)]
      have := tmod_in (n := n) (xor_nonneg (a := x) (b := Int.tdiv x 64) (by omega) (by omega) (by omega) (by omega)) (by omega)
      exact W.ret ⟨this.1, .inl this.2, rfl⟩

theorem oddW {b : List Int} {p n : Int} (hb : RB b) (hp : 0 ≤ p) (hp2 : p ≤ 1000000000) (hn : n ≤ 1000000000) : W (fun k => spec_l20Rd_odd.f k b p n) (fun r => p ≤ r.2 ∧ r.2 ≤ p + 1) := by
  unfold spec_l20Rd_odd.f
  refine W.ite (fun _ => W.bind (pickW hb hp hp2 hn) (fun a ha => W.ret ?_)) (fun _ => W.ret (by dsimp only; omega))
  dsimp only; omega

theorem rdOf_size {parts : List ByteArray} {m : Nat} (h : ∀ x ∈ parts, x.size ≤ m) (i : Int) : (rdOf ByteArray.empty parts i).size ≤ m := by
  unfold rdOf
  rw [List.getD_eq_getElem?_getD]
  cases hx : parts[i.toNat]? with
  | none => simp
  | some y => exact h y (List.mem_of_getElem? hx)

theorem textW {b : List Int} {p n : Int} (hb : RB b) (hp : 0 ≤ p) (hp2 : p ≤ 1000000) (hn : n ≤ 1000000000) : W (fun k => spec_l20Text.f k b p n) (fun r => r.1.size ≤ 125 ∧ p ≤ r.2 ∧ r.2 ≤ p + 30) := by
  unfold spec_l20Text.f
  refine W.bind (pickW hb hp (by omega) (by omega)) (fun a ha => ?_)
  obtain ⟨a1, a2⟩ := a
  dsimp only at ha ⊢
  obtain ⟨parts, hparts, hlen, hsz⟩ : ∃ parts : List ByteArray, parts = [(⟨#[97]⟩ : ByteArray), (⟨#[98]⟩ : ByteArray), (⟨#[97, 98]⟩ : ByteArray), (⟨#[119, 111, 114, 100]⟩ : ByteArray), (⟨#[120, 49]⟩ : ByteArray), (⟨#[32]⟩ : ByteArray), (⟨#[32]⟩ : ByteArray), (⟨#[32, 32]⟩ : ByteArray), (⟨#[10]⟩ : ByteArray), (⟨#[10]⟩ : ByteArray), (⟨#[10, 32, 32]⟩ : ByteArray), (⟨#[40]⟩ : ByteArray), (⟨#[41]⟩ : ByteArray), (⟨#[91, 97, 93]⟩ : ByteArray), (⟨#[123, 99, 125]⟩ : ByteArray), (⟨#[123]⟩ : ByteArray), (⟨#[125]⟩ : ByteArray), (⟨#[46]⟩ : ByteArray), (⟨#[34]⟩ : ByteArray), (⟨#[34, 115, 34]⟩ : ByteArray), (⟨#[55]⟩ : ByteArray), (⟨#[102, 111, 111, 32, 98, 97, 114]⟩ : ByteArray), (⟨#[92]⟩ : ByteArray), (⟨#[97, 97]⟩ : ByteArray)] ∧ parts.length = 24 ∧ ∀ x ∈ parts, x.size ≤ 7 := ⟨_, rfl, rfl, by
    intro x hx
    simp only [List.mem_cons, List.mem_nil_iff, or_false] at hx
    rcases hx with rfl | rfl | rfl | rfl | rfl | rfl | rfl | rfl | rfl | rfl | rfl | rfl | rfl | rfl | rfl | rfl | rfl | rfl | rfl | rfl | rfl | rfl | rfl | rfl <;> decide⟩
  rw [← hparts]
  have last : ∀ (s : ByteArray) (q : Int), s.size ≤ 125 → p ≤ q → q ≤ p + 30 → W (fun k => spec_l20Text.l1 k s b q) (fun r => r.1.size ≤ 125 ∧ p ≤ r.2 ∧ r.2 ≤ p + 30) := by
    intro s q hs h0 h1
    refine W.loop (l := fun s k => spec_l20Text.l1 k s b q) (P := fun _ r => r.1.size ≤ 125 ∧ p ≤ r.2 ∧ r.2 ≤ p + 30) (fun s : ByteArray => s.size ≤ 125) (fun s => 121 - s.size) ?_ s hs
    intro s hs ih
    refine W.step (fun k => spec_l20Text.l1.eq_2 ..) (W.ite (fun h => W.pos (by omega) (ih _ ?_ ?_)) (fun h => W.ret ⟨hs, h0, h1⟩))
    · rw [ByteArray.size_append]; show s.size + 5 ≤ 125; omega
    · rw [ByteArray.size_append]; show 121 - (s.size + 5) < 121 - s.size; omega
  refine W.loop (l := fun (z : ByteArray × Int × Int) k => spec_l20Text.l0 k n z.1 parts z.2.1 b z.2.2) (P := fun _ r => r.1.size ≤ 125 ∧ p ≤ r.2 ∧ r.2 ≤ p + 30) (fun z => z.1.size + 7 * z.2.1 ≤ 161 ∧ z.2.1 ≤ 23 ∧ -1 ≤ z.2.1 ∧ p ≤ z.2.2 ∧ z.2.2 + z.2.1 ≤ p + 24) (fun z => z.2.1.toNat) ?_ (⟨#[]⟩, a1, a2) ⟨by show 0 + 7 * a1 ≤ 161; omega, by dsimp only; omega, by dsimp only; omega, by dsimp only; omega, by dsimp only; omega⟩
  rintro ⟨s, c, q⟩ ⟨h1, h2, h3, h4, h5⟩ ih
  dsimp only at h1 h2 h3 h4 h5 ⊢
  refine W.step (fun k => spec_l20Text.l0.eq_2 ..) (W.ite (fun hc => ?_) (fun hc => ?_))
  · refine W.bind (pickW hb (by omega) (by omega) (by omega)) (fun d hd => ?_)
    have hr := rdOf_size hsz d.1
    rw [w64 (x := c - 1) (by omega) (by omega)]
    refine W.pos hd.1 (W.pos (by omega) (W.pos (by omega) (ih (_, c - 1, d.2) ⟨?_, ?_, ?_, ?_, ?_⟩ ?_)))
    · dsimp only; rw [ByteArray.size_append]; omega
    all_goals (dsimp only; omega)
  · have hmn : mn (s.size : Int) 120 ≤ s.size ∧ 0 ≤ mn (s.size : Int) 120 ∧ mn (s.size : Int) 120 ≤ 120 := by unfold mn; split <;> omega
    have hsz2 : (s.extract 0 (mn (s.size : Int) 120).toNat).size ≤ 120 := by rw [ByteArray.size_extract]; omega
    refine W.pos hmn.2.1 (W.pos hmn.1 (W.bind (oddW hb (by omega) (by omega) hn) (fun o ho => W.ite (fun _ => ?_) (fun _ => W.ret ⟨by dsimp only; omega, by dsimp only; omega, by dsimp only; omega⟩))))
    refine W.bind (pickW hb (by omega) (by omega) (by omega)) (fun d hd => W.ite (fun _ => W.pos (by omega) (W.ret ⟨?_, by dsimp only; omega, by dsimp only; omega⟩)) (fun _ => W.ite (fun _ => W.pos (by omega) (W.ret ⟨?_, by dsimp only; omega, by dsimp only; omega⟩)) (fun _ => last _ _ (by omega) (by omega) (by omega))))
    · dsimp only; rw [ByteArray.size_append]; show _ + 1 ≤ 125; omega
    · dsimp only; rw [ByteArray.size_append]; show _ + 1 ≤ 125; omega

theorem openW {l : List Int} (h : RB l) : ∃ b, spec_l20Open.f l = some (b, 0) ∧ RB b := by
  unfold spec_l20Open.f
  by_cases hl : (l.length : Int) > 2000
  · exact ⟨l.take 2000, by rw [if_pos hl, if_pos (by omega)], RB_take h _⟩
  · exact ⟨l, by rw [if_neg hl], h⟩
end Go.Proofs.Ytbkdfiepdnbeoaa.Ev
