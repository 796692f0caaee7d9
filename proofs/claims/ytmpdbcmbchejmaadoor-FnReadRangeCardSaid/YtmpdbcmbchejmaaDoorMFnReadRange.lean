/- For every code, the law on ranges answers true: the first line is not behind the last one, and both exist; what is read is not longer than the command; the range of all lines is all. Conditions: none. -/
import Derived.Test.YtmpdbcmbchejmaaDoorWMore
import Derived.Laws.Strings
import Derived.Test.YtmpdbcmbchejmaaDoorX2
import Derived.Test.YtmpdbcmbchejmaaDoorLibA
import Derived.Lib.ItoaNum
import Derived.Test.YtmpdbcmbchejmaaDoorX3
/- Running the printed functions: 'W g P': from some number of rounds on g answers, and the answer meets P. -/
namespace Go.Proofs.YtmpdbcmbchejmaaDoor.Wp
open Go.RowKit Go.Proofs.YtmpdbcmbchejmaaDoorW.PrintWords
set_option linter.unusedVariables false
set_option linter.unusedSimpArgs false

def W {α : Type} (g : Nat → Option α) (P : α → Prop) : Prop := ∃ r, P r ∧ ∃ K, ∀ k, K ≤ k → g k = some r

theorem W.ret {α : Type} {r : α} {P : α → Prop} (h : P r) : W (fun _ => some r) P := ⟨r, h, 0, fun _ _ => rfl⟩

theorem W.mono {α : Type} {g : Nat → Option α} {P Q : α → Prop} (h : W g Q) (hk : ∀ a, Q a → P a) : W g P := by
  obtain ⟨r, hr, K, h⟩ := h
  exact ⟨r, hk r hr, K, h⟩

theorem W.bind {α β : Type} {g : Nat → Option α} {f : Nat → α → Option β} {P : β → Prop} {Q : α → Prop} (h : W g Q) (hk : ∀ a, Q a → W (fun k => f k a) P) : W (fun k => (g k).bind (f k)) P := by
  obtain ⟨a, ha, K, h⟩ := h
  obtain ⟨r, hr, K', h'⟩ := hk a ha
  refine ⟨r, hr, max K K', fun k hle => ?_⟩
  have h1 := h k (by omega)
  have h2 := h' k (by omega)
  simp only [h1, Option.bind_some]
  exact h2

theorem W.bind_eq {α β : Type} {g : Nat → Option α} {f : Nat → α → Option β} {P : β → Prop} {a : α} (h : W g (· = a)) (hk : W (fun k => f k a) P) : W (fun k => (g k).bind (f k)) P :=
  W.bind h (fun b hb => by subst hb; exact hk)

theorem W.step {α : Type} {g f : Nat → Option α} {P : α → Prop} (h : ∀ k, g (k + 1) = f k) (w : W f P) : W g P := by
  obtain ⟨r, hr, K, w⟩ := w
  refine ⟨r, hr, K + 1, fun k hk => ?_⟩
  obtain ⟨m, rfl⟩ : ∃ m, k = m + 1 := ⟨k - 1, by omega⟩
  rw [h]
  exact w m (by omega)

theorem W.congr {α : Type} {g f : Nat → Option α} {P : α → Prop} (h : ∀ k, g k = f k) (w : W f P) : W g P := by
  obtain ⟨r, hr, K, w⟩ := w
  exact ⟨r, hr, K, fun k hk => (h k).trans (w k hk)⟩

theorem W.ite {α : Type} {c : Prop} [Decidable c] {a b : Nat → Option α} {P : α → Prop} (h1 : c → W a P) (h2 : ¬c → W b P) : W (fun k => if c then a k else b k) P := by
  by_cases h : c
  · simp only [if_pos h]; exact h1 h
  · simp only [if_neg h]; exact h2 h

theorem W.pos {α : Type} {c : Prop} [Decidable c] {a b : Nat → Option α} {P : α → Prop} (h : c) (w : W a P) : W (fun k => if c then a k else b k) P := W.ite (fun _ => w) (fun h' => absurd h h')
theorem W.neg {α : Type} {c : Prop} [Decidable c] {a b : Nat → Option α} {P : α → Prop} (h : ¬ c) (w : W b P) : W (fun k => if c then a k else b k) P := W.ite (fun h' => absurd h' h) (fun _ => w)
theorem W.call {α β : Type} {x : Option α} {r : α} {f : Nat → α → Option β} {P : β → Prop} (h : x = some r) (w : W (fun k => f k r) P) : W (fun k => x.bind (f k)) P := by
  subst h; exact w
theorem W.name {α β : Type} {r : α} {f : Nat → α → Option β} {P : β → Prop} (w : W (fun k => f k r) P) : W (fun k => (some r).bind (f k)) P := w

theorem W.rounds {α : Type} {g : Nat → Option α} {r : α} (h : W g (· = r)) : ∃ k, g k = some r := by
  obtain ⟨a, rfl, K, h⟩ := h
  exact ⟨K, h K (Nat.le_refl _)⟩

theorem W.both {α : Type} {g : Nat → Option α} {P Q : α → Prop} (h : W g P) (h' : W g Q) : W g (fun a => P a ∧ Q a) := by
  obtain ⟨a, ha, K, h⟩ := h
  obtain ⟨b, hb, K', h'⟩ := h'
  have e : some a = some b := (h (max K K') (by omega)).symm.trans (h' (max K K') (by omega))
  injection e with e
  subst e
  exact ⟨a, ⟨ha, hb⟩, K, h⟩

/-- A loop: a measure, an invariant. -/
theorem W.loop {α σ : Type} {l : σ → Nat → Option α} {P : σ → α → Prop} (I : σ → Prop) (m : σ → Nat) (h : ∀ s, I s → (∀ s', I s' → m s' < m s → W (l s') (P s')) → W (l s) (P s)) : ∀ s, I s → W (l s) (P s) := by
  have key : ∀ n s, m s < n → I s → W (l s) (P s) := by
    intro n
    induction n with
    | zero => intro s hs; omega
    | succ n ih => intro s hs hi; exact h s hi (fun s' hi' hm => ih s' (by omega) hi')
  intro s hi
  exact key (m s + 1) s (by omega) hi

theorem w64 {x : Int} (h : -9223372036854775808 ≤ x) (h' : x ≤ 9223372036854775807) : wrap64 x = x := by
  unfold wrap64; omega

end Go.Proofs.YtmpdbcmbchejmaaDoor.Wp
/- Texts as bytes: parts, sums, equality. -/
namespace Go.Proofs.YtmpdbcmbchejmaaDoor.Ev
open Go.RowKit Go.Proofs.YtmpdbcmbchejmaaDoorW.PrintWords
set_option linter.unusedVariables false
set_option linter.unusedSimpArgs false

theorem bt_eq (s : ByteArray) {i : Int} (h0 : 0 ≤ i) (h : i < s.size) : ∃ h' : i.toNat < s.size, bt s i = (s[i.toNat]'h').toNat := by
  have h' : i.toNat < s.size := by omega
  exact ⟨h', by unfold bt; rw [dif_pos h']⟩
theorem str_ext {a b : ByteArray} (hl : a.size = b.size) (h : ∀ i : Int, 0 ≤ i → i < a.size → bt a i = bt b i) : a = b := by
  apply ByteArray.ext_getElem hl
  intro i h1 h2
  have := h i (by omega) (by omega)
  unfold bt at this
  rw [dif_pos (by simpa using h1), dif_pos (by simpa using h2)] at this
  exact UInt8.toNat_inj.1 (by exact_mod_cast this)
theorem toList_data (a : ByteArray) : a.toList = a.data.toList := ByteArray.toList_eq a
theorem bt_ext (s : ByteArray) {a b i : Int} (h0 : 0 ≤ a) (h1 : 0 ≤ i) (h2 : i < b - a) (h3 : b ≤ s.size) : bt (s.extract a.toNat b.toNat) i = bt s (a + i) := by
  unfold bt
  rw [dif_pos (by rw [ByteArray.size_extract]; omega), dif_pos (by omega), ByteArray.getElem_extract]
  congr 2
  congr 1
  omega
end Go.Proofs.YtmpdbcmbchejmaaDoor.Ev
/- What the printed functions answer, part Nu: decimal numbers with which texts go on: the program's and the reference's. -/
namespace Go.Proofs.YtmpdbcmbchejmaaDoor.Ev
open Go.RowKit Go.Proofs.YtmpdbcmbchejmaaDoor.X Go.Proofs.YtmpdbcmbchejmaaDoor.Wp Go.Proofs.YtmpdbcmbchejmaaDoorW.PrintWords
set_option linter.unusedVariables false
set_option linter.unusedSimpArgs false

def rdl (L : List UInt8) : Int × Int :=
  match Lib.atoiAll L with
  | .ok v => if Lib.itoa v = L then (v, L.length) else (-1, 0)
  | _ => (-1, 0)
abbrev isD (c : UInt8) : Prop := 48 ≤ c.toNat ∧ c.toNat ≤ 57
theorem u8_of (n : Nat) (c : UInt8) (h : c.toNat = n) : UInt8.ofNat n = c := by
  subst h
  exact UInt8.ofNat_toNat
theorem atoi_digits {c : UInt8} (hc : isD c) (r : List UInt8) {u : Nat} (h : Lib.parseUint10 0 (c :: r) = .ok u) (hu : u < 9223372036854775808) : Lib.atoiAll (c :: r) = .ok (u : Int) := by
  unfold isD at hc
  simp only [Lib.atoiAll]
  rw [if_neg (by omega)]
  unfold Lib.parseMag
  rw [if_neg (by simp), h]
  dsimp only
  rw [if_neg (by omega), if_neg (by omega), if_neg (by omega)]
theorem rdl_one {c : UInt8} (hc : isD c) : rdl [c] = ((c.toNat : Int) - 48, 1) := by
  have h1 := hc.1
  have h2 := hc.2
  have hp : Lib.parseUint10 0 [c] = .ok (c.toNat - 48) := by
    simp only [Lib.parseUint10]
    rw [if_pos hc, if_neg (by omega), if_neg (by omega)]
    simp
  unfold rdl
  rw [atoi_digits hc [] hp (by omega)]
  have hi : Lib.itoa ((c.toNat - 48 : Nat) : Int) = [c] := by
    unfold Lib.itoa
    rw [if_neg (by omega), Int.toNat_natCast, Lib.decDigits_one (by omega), u8_of _ c (by omega)]
  dsimp only
  rw [if_pos hi]
  simp only [List.length_cons, List.length_nil, Prod.mk.injEq]
  omega
theorem itoa_short {v : Int} {L : List UInt8} (h : Lib.itoa v = L) (hv : 0 ≤ v) : L.length = Lib.nDigits v.toNat := by
  rw [← h]
  unfold Lib.itoa
  rw [if_neg (by omega), Lib.decDigits_length]
theorem nd1 {u : Nat} (h : u < 10) : Lib.nDigits u = 1 := Lib.nDigits_small h
theorem nd2 {u : Nat} (h : u < 100) : Lib.nDigits u ≤ 2 := by
  by_cases h1 : u < 10
  · rw [nd1 h1]; omega
  · rw [Lib.nDigits_big h1, nd1 (by omega)]; omega
theorem nd3 {u : Nat} (h : u < 1000) : Lib.nDigits u ≤ 3 := by
  by_cases h1 : u < 10
  · rw [nd1 h1]; omega
  · rw [Lib.nDigits_big h1]
    have := nd2 (u := u / 10) (by omega)
    omega
theorem rdl_two {c d : UInt8} (hc : isD c) (hd : isD d) : rdl [c, d] = if c.toNat = 48 then (-1, 0) else (((c.toNat : Int) - 48) * 10 + (d.toNat - 48), 2) := by
  have h1 := hc.1
  have h2 := hc.2
  have h3 := hd.1
  have h4 := hd.2
  have hp : Lib.parseUint10 0 [c, d] = .ok ((c.toNat - 48) * 10 + (d.toNat - 48)) := by
    simp only [Lib.parseUint10]
    rw [if_pos hc, if_neg (by omega), if_neg (by omega), if_pos hd, if_neg (by omega), if_neg (by omega)]
    simp
  unfold rdl
  rw [atoi_digits hc [d] hp (by omega)]
  dsimp only
  by_cases h0 : c.toNat = 48
  · rw [if_pos h0, if_neg]
    intro h
    have := itoa_short h (by omega)
    rw [Int.toNat_natCast, nd1 (by omega)] at this
    simp at this
  · rw [if_neg h0]
    have hi : Lib.itoa (((c.toNat - 48) * 10 + (d.toNat - 48) : Nat) : Int) = [c, d] := by
      unfold Lib.itoa
      rw [if_neg (by omega), Int.toNat_natCast, Lib.decDigits_two (by omega) (by omega), u8_of _ c (by omega), u8_of _ d (by omega)]
    rw [if_pos hi]
    simp only [List.length_cons, List.length_nil, Prod.mk.injEq]
    omega
theorem rdl_three {c d e : UInt8} (hc : isD c) (hd : isD d) (he : isD e) : rdl [c, d, e] = if c.toNat = 48 then (-1, 0) else ((((c.toNat : Int) - 48) * 10 + (d.toNat - 48)) * 10 + (e.toNat - 48), 3) := by
  have h1 := hc.1
  have h2 := hc.2
  have h3 := hd.1
  have h4 := hd.2
  have h5 := he.1
  have h6 := he.2
  have hp : Lib.parseUint10 0 [c, d, e] = .ok (((c.toNat - 48) * 10 + (d.toNat - 48)) * 10 + (e.toNat - 48)) := by
    simp only [Lib.parseUint10]
    rw [if_pos hc, if_neg (by omega), if_neg (by omega), if_pos hd, if_neg (by omega), if_neg (by omega), if_pos he, if_neg (by omega), if_neg (by omega)]
    simp
  unfold rdl
  rw [atoi_digits hc [d, e] hp (by omega)]
  dsimp only
  by_cases h0 : c.toNat = 48
  · rw [if_pos h0, if_neg]
    intro h
    have := itoa_short h (by omega)
    rw [Int.toNat_natCast] at this
    have h7 := nd2 (u := ((c.toNat - 48) * 10 + (d.toNat - 48)) * 10 + (e.toNat - 48)) (by omega)
    simp only [List.length_cons, List.length_nil] at this
    omega
  · rw [if_neg h0]
    have hi : Lib.itoa ((((c.toNat - 48) * 10 + (d.toNat - 48)) * 10 + (e.toNat - 48) : Nat) : Int) = [c, d, e] := by
      unfold Lib.itoa
      rw [if_neg (by omega), Int.toNat_natCast, Lib.decDigits, dif_neg (by omega)]
      rw [show (((c.toNat - 48) * 10 + (d.toNat - 48)) * 10 + (e.toNat - 48)) / 10 = (c.toNat - 48) * 10 + (d.toNat - 48) from by omega, Lib.decDigits_two (by omega) (by omega), u8_of _ c (by omega), u8_of _ d (by omega), u8_of _ e (by omega)]
      rfl
    rw [if_pos hi]
    simp only [List.length_cons, List.length_nil, Prod.mk.injEq]
    omega
theorem rdl_long {L : List UInt8} (h : 4 ≤ L.length) : rdl L = (-1, 0) ∨ (1000 ≤ (rdl L).1 ∨ (rdl L).1 < 0) ∧ (rdl L).2 = L.length := by
  unfold rdl
  cases Lib.atoiAll L with
  | ok v =>
    dsimp only
    by_cases e : Lib.itoa v = L
    · rw [if_pos e]
      right
      refine ⟨?_, rfl⟩
      by_cases hv : 0 ≤ v
      · left
        have h1 := itoa_short e hv
        by_cases h2 : v < 1000
        · have := nd3 (u := v.toNat) (by omega); omega
        · exact Int.not_lt.1 h2
      · right; omega
    · rw [if_neg e]; exact .inl rfl
  | «syntax» => exact .inl rfl
  | range => exact .inl rfl
theorem rdl_nil : rdl [] = (-1, 0) := rfl
theorem rdl_bnd {L : List UInt8} {v n : Int} (h : rdl L = (v, n)) : -9223372036854775808 ≤ v ∧ v ≤ 9223372036854775807 ∧ 0 ≤ n ∧ n ≤ L.length := by
  unfold rdl at h
  cases hA : Lib.atoiAll L with
  | ok u =>
    rw [hA] at h
    dsimp only at h
    have := atoi_range hA
    split at h
    · obtain ⟨rfl, rfl⟩ := Prod.mk.inj h; omega
    · obtain ⟨rfl, rfl⟩ := Prod.mk.inj h; omega
  | «syntax» => rw [hA] at h; obtain ⟨rfl, rfl⟩ := Prod.mk.inj h; omega
  | range => rw [hA] at h; obtain ⟨rfl, rfl⟩ := Prod.mk.inj h; omega
/-- The number that the reference reads from place p on, of what is left of a text, t. -/
def sp3 (t : ByteArray) (p : Int) : Int × Int :=
  if dig t = 0 then (-1, p)
  else if bt t 0 = 48 then (0, p + 1)
  else if dig t = 1 then (bt t 0 - 48, p + 1)
  else if dig t = 2 then ((bt t 0 - 48) * 10 + (bt t 1 - 48), p + 2)
  else (((bt t 0 - 48) * 10 + (bt t 1 - 48)) * 10 + (bt t 2 - 48), p + 3)
theorem dig_spec (t : ByteArray) : dig t ≤ t.size ∧ (∀ j : Int, 0 ≤ j → j < dig t → 48 ≤ bt t j ∧ bt t j ≤ 57) ∧ (dig t < t.size → ¬ (48 ≤ bt t (dig t) ∧ bt t (dig t) ≤ 57)) := by
  obtain ⟨a, b, c, d⟩ := digA_spec t t.size 0 (by omega)
  exact ⟨b, fun j h0 h1 => c j h0 h1, d⟩
theorem tail_bt (s : ByteArray) {p : Nat} (hp : p ≤ s.size) {j : Int} (h0 : 0 ≤ j) (h1 : j < (s.extract p s.size).size) : bt (s.extract p s.size) j = bt s (p + j) := by
  rw [ByteArray.size_extract] at h1
  have := bt_ext s (a := p) (b := s.size) (i := j) (by omega) h0 (by omega) (by omega)
  rw [Int.toNat_natCast, Int.toNat_natCast] at this
  exact this
theorem specNum (s : ByteArray) (p : Nat) (hp : p ≤ s.size) (hs : s.size ≤ 140737488351232) : W (fun k => spec_l20Number.f k s p) (· = sp3 (s.extract p s.size) p) := by
  unfold spec_l20Number.f
  obtain ⟨t, ht⟩ : ∃ t, t = s.extract p s.size := ⟨_, rfl⟩
  have hz : t.size = s.size - p := by rw [ht, ByteArray.size_extract]; omega
  have hb : ∀ j : Int, 0 ≤ j → j < t.size → bt t j = bt s (p + j) := fun j h0 h1 => by subst ht; exact tail_bt s hp h0 h1
  rw [← ht]
  clear ht
  obtain ⟨d1, d2, d3⟩ := dig_spec t
  obtain ⟨D, hD⟩ : ∃ D, D = dig t := ⟨_, rfl⟩
  rw [← hD] at d1 d2 d3
  have stop : ∀ (x : Int), W (fun k => spec_l20Number.l0 k s ((p : Int) + D) x) (· = (x, (p : Int) + D)) := by
    intro x
    refine W.step (fun k => spec_l20Number.l0.eq_2 ..) ?_
    by_cases hlt : D < t.size
    · have h3 := d3 hlt
      rw [hb _ (by omega) (by omega)] at h3
      refine W.pos (by omega) (W.pos (by omega) (W.ite (fun h48 => W.ite (fun h57 => absurd ⟨h48, h57⟩ h3) (fun _ => W.ret rfl)) (fun _ => W.ret rfl)))
    · exact W.neg (by omega) (W.ret rfl)
  have dgt : ∀ (i : Nat) (x : Int), i < D → W (fun k => if x = 0 then some (x, (p : Int) + i) else if x < 100 then spec_l20Number.l0 k s ((p : Int) + i + 1) (wrap64 ((wrap64 ((mx 0 x) * 10)) + (bt t i - 48))) else some (x, (p : Int) + i)) (· = sp3 t p) → W (fun k => spec_l20Number.l0 k s ((p : Int) + i) x) (· = sp3 t p) := by
    intro i x hi h
    have h2 := d2 i (by omega) (by omega)
    have hbi := hb i (by omega) (by omega)
    refine W.step (fun k => spec_l20Number.l0.eq_2 ..) (W.pos (by omega) (W.pos (by omega) ?_))
    rw [← hbi, w64 (x := (p : Int) + i + 1) (by omega) (by omega), show (bt t i - 48) % 256 = bt t i - 48 from by omega]
    exact W.pos h2.1 (W.pos h2.2 h)
  have fin : ∀ x : Int, sp3 t p = (x, (p : Int) + D) → W (fun k => spec_l20Number.l0 k s ((p : Int) + D) x) (· = sp3 t p) := fun x h => by rw [h]; exact stop x
  have hs3 : sp3 t p = if D = 0 then (-1, (p : Int)) else if bt t 0 = 48 then (0, (p : Int) + 1) else if D = 1 then (bt t 0 - 48, (p : Int) + 1) else if D = 2 then ((bt t 0 - 48) * 10 + (bt t 1 - 48), (p : Int) + 2) else (((bt t 0 - 48) * 10 + (bt t 1 - 48)) * 10 + (bt t 2 - 48), (p : Int) + 3) := by unfold sp3; rw [hD]
  by_cases h0 : D = 0
  · have := fin (-1) (by rw [hs3, if_pos h0, h0]; simp)
    rw [h0, show (p : Int) + ((0 : Nat) : Int) = p from by omega] at this
    exact this
  have b0 := d2 0 (by omega) (by omega)
  have s0 := dgt 0 (-1) (by omega)
  rw [show (p : Int) + ((0 : Nat) : Int) = p from by omega] at s0
  refine s0 (W.neg (by decide) (W.pos (by decide) ?_))
  rw [show mx 0 (-1) = 0 from rfl, w64 (x := (0 : Int) * 10) (by omega) (by omega), show ((0 : Nat) : Int) = 0 from rfl, w64 (x := 0 * 10 + (bt t 0 - 48)) (by omega) (by omega), show (0 : Int) * 10 + (bt t 0 - 48) = bt t 0 - 48 from by omega]
  rw [if_neg h0] at hs3
  by_cases h1 : D = 1
  · have := fin (bt t 0 - 48) (by
      rw [hs3, h1]
      by_cases hz48 : bt t 0 = 48
      · rw [if_pos hz48, hz48]; rfl
      · rw [if_neg hz48, if_pos rfl]; rfl)
    rw [h1] at this
    exact this
  have s1 := dgt 1 (bt t 0 - 48) (by omega)
  refine s1 (W.ite (fun hz48 => W.ret ?_) (fun hz48 => W.pos (by omega) ?_))
  · rw [hs3, if_pos (by omega), hz48]; rfl
  have b1 := d2 1 (by omega) (by omega)
  rw [if_neg (by omega), if_neg h1] at hs3
  have hm1 : mx 0 (bt t 0 - 48) = bt t 0 - 48 := by unfold mx; omega
  rw [hm1, w64 (x := (bt t 0 - 48) * 10) (by omega) (by omega), show ((1 : Nat) : Int) = 1 from rfl, w64 (x := (bt t 0 - 48) * 10 + (bt t 1 - 48)) (by omega) (by omega), show (p : Int) + 1 + 1 = (p : Int) + 2 from by omega]
  by_cases h2 : D = 2
  · have := fin ((bt t 0 - 48) * 10 + (bt t 1 - 48)) (by rw [hs3, if_pos h2, h2]; rfl)
    rw [h2] at this
    exact this
  have s2 := dgt 2 ((bt t 0 - 48) * 10 + (bt t 1 - 48)) (by omega)
  rw [show (p : Int) + ((2 : Nat) : Int) = (p : Int) + 2 from rfl] at s2
  refine s2 (W.neg (by omega) (W.pos (by omega) ?_))
  have b2 := d2 2 (by omega) (by omega)
  rw [if_neg h2] at hs3
  have hm2 : mx 0 ((bt t 0 - 48) * 10 + (bt t 1 - 48)) = (bt t 0 - 48) * 10 + (bt t 1 - 48) := by unfold mx; omega
  rw [hm2, w64 (x := ((bt t 0 - 48) * 10 + (bt t 1 - 48)) * 10) (by omega) (by omega), show ((2 : Nat) : Int) = 2 from rfl, w64 (x := ((bt t 0 - 48) * 10 + (bt t 1 - 48)) * 10 + (bt t 2 - 48)) (by omega) (by omega), show (p : Int) + 2 + 1 = (p : Int) + 3 from by omega]
  by_cases h3 : D = 3
  · have := fin (((bt t 0 - 48) * 10 + (bt t 1 - 48)) * 10 + (bt t 2 - 48)) (by rw [hs3, h3]; rfl)
    rw [h3] at this
    exact this
  have s3 := dgt 3 (((bt t 0 - 48) * 10 + (bt t 1 - 48)) * 10 + (bt t 2 - 48)) (by omega)
  rw [show (p : Int) + ((3 : Nat) : Int) = (p : Int) + 3 from rfl] at s3
  exact s3 (W.neg (by omega) (W.neg (by omega) (W.ret hs3.symm)))

theorem data_take (t : ByteArray) (n : Nat) : (t.extract 0 n).data.toList = t.data.toList.take n := by
  rw [ByteArray.data_extract, Array.toList_extract]
  simp
theorem rdn_rdl (t : ByteArray) : rdn t = rdl (t.data.toList.take (dig t)) := by
  have hl : (t.data.toList.take (dig t)).length = dig t := by
    rw [List.length_take, Array.length_toList]
    have := (dig_spec t).1
    show min (dig t) t.size = dig t
    omega
  unfold rdn rdl
  rw [data_take, hl]
  rfl
theorem take_bytes (t : ByteArray) : ∀ {n : Nat}, n ≤ t.size → ∃ L : List UInt8, t.data.toList.take n = L ∧ L.length = n ∧ ∀ j : Nat, j < n → ∃ c, L[j]? = some c ∧ bt t j = c.toNat := by
  intro n hn
  refine ⟨_, rfl, by rw [List.length_take, Array.length_toList]; show min n t.size = n; omega, fun j hj => ?_⟩
  have hl : j < t.data.toList.length := by rw [Array.length_toList]; show j < t.size; omega
  refine ⟨t.data.toList[j], by rw [List.getElem?_take, if_pos hj, List.getElem?_eq_getElem hl], ?_⟩
  obtain ⟨p, e⟩ := bt_eq t (i := (j : Int)) (by omega) (by omega)
  rw [e]; rfl
/-- The program's number and the reference's. -/
theorem num_rel (t : ByteArray) (p : Int) : ((rdn t).1 ≤ 0 ∧ (sp3 t p).1 ≤ 0) ∨ (1 ≤ (rdn t).1 ∧ (rdn t).1 ≤ 999 ∧ 1 ≤ (rdn t).2 ∧ (rdn t).2 = dig t ∧ sp3 t p = ((rdn t).1, p + (rdn t).2)) ∨ (((rdn t).1 ≤ 0 ∨ 1000 ≤ (rdn t).1) ∧ 100 ≤ (sp3 t p).1 ∧ (sp3 t p).2 = p + 3 ∧ 4 ≤ dig t) := by
  obtain ⟨d1, d2, d3⟩ := dig_spec t
  obtain ⟨L, hL, hlen, hget⟩ := take_bytes t d1
  rw [rdn_rdl, hL]
  have dg : ∀ j : Nat, j < dig t → ∃ c, L[j]? = some c ∧ bt t j = c.toNat ∧ isD c := fun j hj => by
    obtain ⟨c, h1, h2⟩ := hget j hj
    have h3 := d2 j (by omega) (by omega)
    rw [h2] at h3
    exact ⟨c, h1, h2, by omega, by omega⟩
  by_cases h0 : dig t = 0
  · have : L = [] := List.length_eq_zero_iff.1 (by omega)
    subst this
    left
    unfold sp3
    rw [if_pos h0, rdl_nil]
    dsimp only
    omega
  obtain ⟨c, c1, c2, c3⟩ := dg 0 (by omega)
  have e0 : bt t 0 = c.toNat := c2
  have c4 := c3.1
  have c5 := c3.2
  by_cases h1 : dig t = 1
  · have : L = [c] := by
      match L, hlen, c1 with
      | [x], _, h => simp only [List.getElem?_cons_zero, Option.some.injEq] at h; rw [h]
      | [], hl, _ => simp at hl; omega
      | _ :: _ :: _, hl, _ => simp at hl; omega
    subst this
    rw [rdl_one c3]
    unfold sp3
    rw [if_neg h0, e0]
    by_cases hz : c.toNat = 48
    · left
      rw [if_pos (by omega)]
      dsimp only
      omega
    · right; left
      rw [if_neg (by omega), if_pos h1]
      dsimp only
      refine ⟨by omega, by omega, by omega, by omega, rfl⟩
  obtain ⟨d, e1, e2, e3⟩ := dg 1 (by omega)
  have f1 : bt t 1 = d.toNat := e2
  have e4 := e3.1
  have e5 := e3.2
  by_cases h2 : dig t = 2
  · have : L = [c, d] := by
      match L, hlen, c1, e1 with
      | [x, y], _, h, h' =>
        simp only [List.getElem?_cons_zero, List.getElem?_cons_succ, Option.some.injEq] at h h'
        rw [h, h']
      | [], hl, _, _ => simp at hl; omega
      | [_], hl, _, _ => simp at hl; omega
      | _ :: _ :: _ :: _, hl, _, _ => simp at hl; omega
    subst this
    rw [rdl_two c3 e3]
    unfold sp3
    rw [if_neg h0, e0, f1]
    by_cases hz : c.toNat = 48
    · left
      rw [if_pos hz, if_pos (by omega)]
      dsimp only
      omega
    · right; left
      rw [if_neg hz, if_neg (by omega), if_neg h1, if_pos h2]
      dsimp only
      refine ⟨by omega, by omega, by omega, by omega, rfl⟩
  obtain ⟨e, g1, g2, g3⟩ := dg 2 (by omega)
  have f2 : bt t 2 = e.toNat := g2
  have g4 := g3.1
  have g5 := g3.2
  by_cases h3 : dig t = 3
  · have : L = [c, d, e] := by
      match L, hlen, c1, e1, g1 with
      | [x, y, z], _, h, h', h'' =>
        simp only [List.getElem?_cons_zero, List.getElem?_cons_succ, Option.some.injEq] at h h' h''
        rw [h, h', h'']
      | [], hl, _, _, _ => simp at hl; omega
      | [_], hl, _, _, _ => simp at hl; omega
      | [_, _], hl, _, _, _ => simp at hl; omega
      | _ :: _ :: _ :: _ :: _, hl, _, _, _ => simp at hl; omega
    subst this
    rw [rdl_three c3 e3 g3]
    unfold sp3
    rw [if_neg h0, e0, f1, f2]
    by_cases hz : c.toNat = 48
    · left
      rw [if_pos hz, if_pos (by omega)]
      dsimp only
      omega
    · right; left
      rw [if_neg hz, if_neg (by omega), if_neg h1, if_neg h2]
      dsimp only
      refine ⟨by omega, by omega, by omega, by omega, rfl⟩
  · have hl := rdl_long (L := L) (by omega)
    have him : (rdl L).1 ≤ 0 ∨ 1000 ≤ (rdl L).1 := by
      rcases hl with h | ⟨h, _⟩
      · left; rw [h]; decide
      · rcases h with h | h
        · exact .inr h
        · left; omega
    unfold sp3
    rw [if_neg h0, e0, f1, f2]
    by_cases hz : c.toNat = 48
    · rw [if_pos (by omega)]
      rcases him with h | h
      · exact .inl ⟨h, Int.le_refl _⟩
      · -- a number that begins with a zero is written without it
        exfalso
        have hv : ∃ v, Lib.itoa v = L ∧ 1000 ≤ v := by
          unfold rdl at h
          cases hA : Lib.atoiAll L with
          | ok v =>
            rw [hA] at h
            dsimp only at h
            split at h
            · rename_i hi; exact ⟨v, hi, h⟩
            · simp at h
          | «syntax» => rw [hA] at h; simp at h
          | range => rw [hA] at h; simp at h
        obtain ⟨v, hv1, hv2⟩ := hv
        have hd0 : ∀ u : Nat, 1 ≤ u → ∃ a r, Lib.decDigits u = a :: r ∧ a ≠ 48 := by
          intro u
          induction u using Nat.strongRecOn with
          | _ u ih =>
            intro hu
            by_cases hs : u < 10
            · refine ⟨_, [], by rw [Lib.decDigits_one hs], ?_⟩
              intro h5
              have h6 := congrArg UInt8.toNat h5
              rw [UInt8.toNat_ofNat'] at h6
              have : (48 : UInt8).toNat = 48 := rfl
              omega
            · obtain ⟨a, r, h5, h6⟩ := ih (u / 10) (by omega) (by omega)
              exact ⟨a, r ++ [UInt8.ofNat (48 + u % 10)], by rw [Lib.decDigits, dif_neg hs, h5]; rfl, h6⟩
        obtain ⟨a, r, h5, h6⟩ := hd0 v.toNat (by omega)
        unfold Lib.itoa at hv1
        rw [if_neg (by omega), h5] at hv1
        rw [← hv1, List.getElem?_cons_zero, Option.some.injEq] at c1
        exact h6 (UInt8.toNat_inj.1 (by rw [c1, hz]; rfl))
    · right; right
      rw [if_neg (by omega), if_neg h1, if_neg h2]
      dsimp only
      refine ⟨him, by omega, rfl, by omega⟩
end Go.Proofs.YtmpdbcmbchejmaaDoor.Ev
/- What the printed functions answer, part A: valid texts, places, ranges. -/
namespace Go.Proofs.YtmpdbcmbchejmaaDoor.Ev
open Go.RowKit Go.Proofs.YtmpdbcmbchejmaaDoor.X Go.Proofs.YtmpdbcmbchejmaaDoor.Wp Go.Proofs.YtmpdbcmbchejmaaDoorW.PrintWords
set_option linter.unusedVariables false
set_option linter.unusedSimpArgs false

def okB (c : Int) : Prop := c = 10 ∨ (32 ≤ c ∧ c ≤ 126)
instance (c : Int) : Decidable (okB c) := by unfold okB; infer_instance
/-- A valid text. -/
def VT (s : ByteArray) : Prop := s.size ≤ 120 ∧ ∀ j : Int, 0 ≤ j → j < s.size → okB (bt s j)

noncomputable instance (s : ByteArray) : Decidable (VT s) := Classical.propDecidable _

theorem isByte_eq (c : Int) : impl_isByte.f c = some (decide (okB c)) := by
  unfold impl_isByte.f okB
  by_cases h1 : c = 10
  · simp [h1]
  · by_cases h2 : c ≥ 32
    · simp [h1, h2]
    · have : ¬ 32 ≤ c := h2
      simp [h1, this]
theorem in_eq (a b c : Int) : impl_in.f a b c = some (decide (b ≤ a ∧ a ≤ c)) := by
  unfold impl_in.f
  by_cases h : b ≤ a <;> simp [h]
theorem l1In_eq (a b c : Int) : spec_l1In.f a b c = some (decide (b ≤ a ∧ a ≤ c)) := by
  unfold spec_l1In.f
  by_cases h : b ≤ a
  · simp [h]
  · have : ¬ a ≥ b := h
    simp [h]
theorem implTV (s : ByteArray) (hs : s.size ≤ 140737488351232) : W (fun k => impl_TextValid.f k s) (fun b => b = true ↔ VT s) := by
  unfold impl_TextValid.f
  refine W.loop (l := fun i k => impl_TextValid.l0 k s s.size i) (P := fun _ b => b = true ↔ VT s) (fun i => 0 ≤ i ∧ i ≤ s.size ∧ ∀ j, 0 ≤ j → j < i → okB (bt s j)) (fun i => (s.size - i).toNat) ?_ 0 ⟨by omega, by omega, fun j h0 h1 => by omega⟩
  intro i ⟨h0, h1, h2⟩ ih
  refine W.step (fun k => impl_TextValid.l0.eq_2 ..) ?_
  by_cases hlt : i < s.size
  · simp (disch := omega) only [if_pos, w64, isByte_eq, Option.bind_some]
    by_cases hb : okB (bt s i)
    · simp only [hb, decide_true, if_true]
      exact ih (i + 1) ⟨by omega, by omega, fun j h3 h4 => by
        by_cases e : j = i
        · subst e; exact hb
        · exact h2 j h3 (by omega)⟩ (by omega)
    · simp only [hb, decide_false]
      exact W.ret ⟨fun h => by simp at h, fun h => absurd (h.2 i h0 hlt) hb⟩
  · simp (disch := omega) only [if_neg]
    refine W.ret ?_
    simp only [decide_eq_true_eq]
    exact ⟨fun h => ⟨by omega, fun j h3 h4 => h2 j h3 (by omega)⟩, fun h => by have := h.1; omega⟩

theorem tv_pos {g : Nat → Option Bool} {s : ByteArray} (h : W g (fun b => b = true ↔ VT s)) (hv : VT s) : W g (· = true) := h.mono fun b hb => hb.2 hv
end Go.Proofs.YtmpdbcmbchejmaaDoor.Ev
/- What the printed functions answer, part Rr: the lines with which a command begins. -/
namespace Go.Proofs.YtmpdbcmbchejmaaDoor.Ev
open Go.RowKit Go.Proofs.YtmpdbcmbchejmaaDoor.X Go.Proofs.YtmpdbcmbchejmaaDoor.Wp Go.Proofs.YtmpdbcmbchejmaaDoorW.PrintWords
set_option linter.unusedVariables false
set_option linter.unusedSimpArgs false

theorem hp1 (t : ByteArray) (c : UInt8) : strings_HasPrefix.f t ⟨#[c]⟩ = some (decide (0 < t.size ∧ bt t 0 = c.toNat)) := by
  unfold strings_HasPrefix.f
  congr 1
  show ([c] : List UInt8).isPrefixOf t.data.toList = _
  have hl : t.data.toList.length = t.size := by rw [Array.length_toList]; rfl
  by_cases h0 : 0 < t.size
  · obtain ⟨p, e⟩ := bt_eq t (i := 0) (by omega) (by omega)
    have hd : t.data.toList = t.data.toList[0]'(by omega) :: t.data.toList.drop 1 := by
      have := List.drop_eq_getElem_cons (l := t.data.toList) (i := 0) (by omega)
      rw [List.drop_zero] at this
      exact this
    rw [hd, e]
    have : (t[(0 : Int).toNat]'p) = t.data.toList[0]'(by omega) := rfl
    rw [this]
    simp only [List.isPrefixOf, Bool.and_true]
    rw [Bool.eq_iff_iff, beq_iff_eq, decide_eq_true_eq]
    constructor
    · intro h; exact ⟨h0, by rw [h]⟩
    · intro h; exact UInt8.toNat_inj.1 (by exact_mod_cast h.2.symm)
  · have : t.data.toList = [] := List.length_eq_zero_iff.1 (by omega)
    rw [this, decide_eq_false (fun h => h0 h.1)]
    rfl
def rrOk (a b n lines : Int) : Int × Int × Int := if (1 ≤ a ∧ a ≤ lines) ∧ a ≤ b ∧ b ≤ lines then (a - 1, b - 1, n) else (-1, -1, 0)
def irr (s : ByteArray) (lines : Int) : Int × Int × Int :=
  if ¬ (1 ≤ lines ∧ lines ≤ 121) then (-1, -1, 0)
  else if 0 < s.size ∧ bt s 0 = 37 then (0, lines - 1, 1)
  else if (rdn s).2 < s.size ∧ bt s (rdn s).2 = 44 then
    (if (rdn (s.extract ((rdn s).2 + 1).toNat s.size)).2 = 0 then (-1, -1, 0) else rrOk (rdn s).1 (rdn (s.extract ((rdn s).2 + 1).toNat s.size)).1 ((rdn s).2 + 1 + (rdn (s.extract ((rdn s).2 + 1).toNat s.size)).2) lines)
  else rrOk (rdn s).1 (rdn s).1 (rdn s).2 lines
def srr (s : ByteArray) (lines : Int) : Int × Int × Int :=
  if ¬ (1 ≤ lines ∧ lines ≤ 121) then (-1, -1, 0)
  else if 0 < s.size ∧ bt s 0 = 37 then (0, lines - 1, 1)
  else if 0 < (sp3 s 0).1 ∧ (sp3 s 0).2 < s.size ∧ bt s (sp3 s 0).2 = 44 then
    rrOk (sp3 s 0).1 (sp3 (s.extract ((sp3 s 0).2 + 1).toNat s.size) ((sp3 s 0).2 + 1)).1 (sp3 (s.extract ((sp3 s 0).2 + 1).toNat s.size) ((sp3 s 0).2 + 1)).2 lines
  else rrOk (sp3 s 0).1 (sp3 s 0).1 (sp3 s 0).2 lines
theorem rdn_bnd (t : ByteArray) : -9223372036854775808 ≤ (rdn t).1 ∧ (rdn t).1 ≤ 9223372036854775807 ∧ 0 ≤ (rdn t).2 ∧ (rdn t).2 ≤ t.size := by
  have h := rdl_bnd (L := t.data.toList.take (dig t)) (v := (rdn t).1) (n := (rdn t).2) (by rw [← rdn_rdl])
  have hl : t.data.toList.length = t.size := by rw [Array.length_toList]; rfl
  rw [List.length_take] at h
  omega
theorem readNum (s : ByteArray) (hs : s.size ≤ 1000000000) : impl_readNumber.f s = some (rdn s) := by unfold impl_readNumber.f; rw [if_pos hs]
theorem ext_bt0 (s : ByteArray) {e : Int} (h0 : 0 ≤ e) (h1 : e ≤ s.size) : (0 < (s.extract e.toNat s.size).size ∧ bt (s.extract e.toNat s.size) 0 = 44) ↔ e < s.size ∧ bt s e = 44 := by
  have hz : (s.extract e.toNat s.size).size = s.size - e.toNat := by rw [ByteArray.size_extract]; omega
  rw [hz]
  constructor
  · rintro ⟨a, b⟩
    rw [tail_bt s (by omega) (by omega) (by rw [hz]; omega)] at b
    exact ⟨by omega, by rw [show ((e.toNat : Nat) : Int) + 0 = e from by omega] at b; exact b⟩
  · rintro ⟨a, b⟩
    refine ⟨by omega, ?_⟩
    rw [tail_bt s (by omega) (by omega) (by rw [hz]; omega), show ((e.toNat : Nat) : Int) + 0 = e from by omega]
    exact b
theorem implRR (s : ByteArray) (lines : Int) (hs : s.size ≤ 1000000000) : W (fun k => impl_ReadRange.f k s lines) (· = irr s lines) := by
  unfold impl_ReadRange.f irr
  refine W.call (in_eq ..) (W.ite (fun h => ?_) (fun h => W.ret (by rw [if_pos (by simpa using h)])))
  have hl : 1 ≤ lines ∧ lines ≤ 121 := by simpa using h
  rw [if_neg (fun h => h hl)]
  refine W.call (hp1 s 37) ?_
  rw [show ((37 : UInt8).toNat : Int) = 37 from rfl]
  refine W.ite (fun hp => ?_) (fun hp => ?_)
  · rw [if_pos (by simpa using hp), w64 (x := lines - 1) (by omega) (by omega)]
    exact W.ret rfl
  rw [if_neg (by simpa using hp)]
  refine W.call (readNum s hs) ?_
  obtain ⟨b1, b2, b3, b4⟩ := rdn_bnd s
  have fin : ∀ (a b n : Int), -9223372036854775808 ≤ a → a ≤ 9223372036854775807 → W (fun k => impl_ReadRange.j0 k lines a n b) (· = rrOk a b n lines) := by
    intro a b n ha ha2
    unfold rrOk
    refine W.step (fun k => impl_ReadRange.j0.eq_2 ..) (W.call (in_eq ..) (W.ite (fun h1 => W.call (in_eq ..) (W.ite (fun h2 => W.ret ?_) (fun h2 => W.ret ?_))) (fun h1 => W.ret ?_)))
    · have h1 : 1 ≤ a ∧ a ≤ lines := by simpa using h1
      have h2 : a ≤ b ∧ b ≤ lines := by simpa using h2
      rw [if_pos ⟨h1, h2⟩, w64 (x := a - 1) (by omega) (by omega), w64 (x := b - 1) (by omega) (by omega)]
    · rw [if_neg (fun h => h2 (by simpa using h.2))]
    · rw [if_neg (fun h => h1 (by simpa using h.1))]
  refine W.pos b3 (W.pos b4 (W.call (hp1 _ 44) ?_))
  rw [show ((44 : UInt8).toNat : Int) = 44 from rfl]
  have hc := ext_bt0 s b3 b4
  refine W.ite (fun h2 => ?_) (fun h2 => ?_)
  · have h3 := hc.1 (by simpa using h2)
    rw [if_pos h3, w64 (x := (rdn s).2 + 1) (by omega) (by omega)]
    refine W.pos (by omega) (W.pos (by omega) (W.call (readNum _ (by rw [ByteArray.size_extract]; omega)) ?_))
    obtain ⟨c1, c2, c3, c4⟩ := rdn_bnd (s.extract ((rdn s).2 + 1).toNat s.size)
    rw [ByteArray.size_extract] at c4
    refine W.ite (fun h4 => W.ret (by rw [if_pos h4])) (fun h4 => ?_)
    rw [if_neg h4, w64 (x := 1 + (rdn (s.extract ((rdn s).2 + 1).toNat s.size)).2) (by omega) (by omega), w64 (x := (rdn s).2 + (1 + (rdn (s.extract ((rdn s).2 + 1).toNat s.size)).2)) (by omega) (by omega), show (rdn s).2 + (1 + (rdn (s.extract ((rdn s).2 + 1).toNat s.size)).2) = (rdn s).2 + 1 + (rdn (s.extract ((rdn s).2 + 1).toNat s.size)).2 from by omega]
    exact fin _ _ _ b1 b2
  · rw [if_neg (fun h3 => h2 (by simpa using hc.2 h3))]
    exact fin _ _ _ b1 b2
theorem ext_all (s : ByteArray) : s.extract 0 s.size = s := by
  apply str_ext
  · rw [ByteArray.size_extract]; omega
  · intro i h0 h1
    rw [tail_bt s (Nat.zero_le _) h0 h1]
    congr 1; omega
theorem sp3_bnd (t : ByteArray) (p : Int) : p ≤ (sp3 t p).2 ∧ (sp3 t p).2 ≤ p + t.size ∧ -1 ≤ (sp3 t p).1 ∧ (sp3 t p).1 ≤ 999 := by
  obtain ⟨d1, d2, d3⟩ := dig_spec t
  unfold sp3
  by_cases h0 : dig t = 0
  · rw [if_pos h0]; dsimp only; omega
  rw [if_neg h0]
  have b0 := d2 0 (by omega) (by omega)
  by_cases hz : bt t 0 = 48
  · rw [if_pos hz]; dsimp only; omega
  rw [if_neg hz]
  by_cases h1 : dig t = 1
  · rw [if_pos h1]; dsimp only; omega
  rw [if_neg h1]
  have b1 := d2 1 (by omega) (by omega)
  by_cases h2 : dig t = 2
  · rw [if_pos h2]; dsimp only; omega
  rw [if_neg h2]
  have b2 := d2 2 (by omega) (by omega)
  dsimp only; omega
theorem specRR (s : ByteArray) (lines : Int) (hs : s.size ≤ 1000000000) : W (fun k => spec_ReadRange.f k s lines) (· = srr s lines) := by
  unfold spec_ReadRange.f srr
  refine W.call (l1In_eq ..) (W.ite (fun h => ?_) (fun h => W.ret (by rw [if_pos (by simpa using h)])))
  have hl : 1 ≤ lines ∧ lines ≤ 121 := by simpa using h
  rw [if_neg (fun h => h hl)]
  have fin : ∀ (a b n : Int), a ≤ 999 → W (fun k => spec_ReadRange.j2 k lines a n b) (· = rrOk a b n lines) := by
    intro a b n ha2
    unfold rrOk
    refine W.step (fun k => spec_ReadRange.j2.eq_2 ..) (W.call (l1In_eq ..) (W.ite (fun h1 => W.call (l1In_eq ..) (W.ite (fun h2 => W.ret ?_) (fun h2 => W.ret ?_))) (fun h1 => W.ret ?_)))
    · have h1 : 1 ≤ a ∧ a ≤ lines := by simpa using h1
      have h2 : a ≤ b ∧ b ≤ lines := by simpa using h2
      rw [if_pos ⟨h1, h2⟩, w64 (x := a - 1) (by omega) (by omega), w64 (x := b - 1) (by omega) (by omega)]
    · rw [if_neg (fun h => h2 (by simpa using h.2))]
    · rw [if_neg (fun h => h1 (by simpa using h.1))]
  have rest : W (fun k => spec_ReadRange.j0 k s lines false) (· = if 0 < (sp3 s 0).1 ∧ (sp3 s 0).2 < s.size ∧ bt s (sp3 s 0).2 = 44 then
    rrOk (sp3 s 0).1 (sp3 (s.extract ((sp3 s 0).2 + 1).toNat s.size) ((sp3 s 0).2 + 1)).1 (sp3 (s.extract ((sp3 s 0).2 + 1).toNat s.size) ((sp3 s 0).2 + 1)).2 lines
  else rrOk (sp3 s 0).1 (sp3 s 0).1 (sp3 s 0).2 lines) := by
    have h0 := specNum s 0 (Nat.zero_le _) (by omega)
    rw [ext_all, show ((0 : Nat) : Int) = 0 from rfl] at h0
    obtain ⟨b1, b2, b3, b4⟩ := sp3_bnd s 0
    refine W.step (fun k => spec_ReadRange.j0.eq_2 ..) (W.neg (by decide) (W.bind_eq h0 ?_))
    have no : ¬ (0 < (sp3 s 0).1 ∧ (sp3 s 0).2 < s.size ∧ bt s (sp3 s 0).2 = 44) → W (fun k => spec_ReadRange.j1 k s lines (sp3 s 0).1 (sp3 s 0).2 (sp3 s 0).1 false) (· = if 0 < (sp3 s 0).1 ∧ (sp3 s 0).2 < s.size ∧ bt s (sp3 s 0).2 = 44 then
    rrOk (sp3 s 0).1 (sp3 (s.extract ((sp3 s 0).2 + 1).toNat s.size) ((sp3 s 0).2 + 1)).1 (sp3 (s.extract ((sp3 s 0).2 + 1).toNat s.size) ((sp3 s 0).2 + 1)).2 lines
  else rrOk (sp3 s 0).1 (sp3 s 0).1 (sp3 s 0).2 lines) := fun hn => by
      rw [if_neg hn]
      exact W.step (fun k => spec_ReadRange.j1.eq_2 ..) (W.neg (by decide) (fin _ _ _ b4))
    refine W.ite (fun h1 => W.ite (fun h2 => W.pos (by omega) ?_) (fun h2 => no (fun h => h2 h.2.1))) (fun h1 => no (fun h => h1 h.1))
    by_cases h3 : bt s (sp3 s 0).2 = 44
    · rw [show (bt s (sp3 s 0).2 == 44) = true from by simpa using h3, if_pos ⟨h1, h2, h3⟩]
      refine W.step (fun k => spec_ReadRange.j1.eq_2 ..) (W.pos rfl ?_)
      rw [w64 (x := (sp3 s 0).2 + 1) (by omega) (by omega)]
      have h4 := specNum s ((sp3 s 0).2 + 1).toNat (by omega) (by omega)
      rw [show ((((sp3 s 0).2 + 1).toNat : Nat) : Int) = (sp3 s 0).2 + 1 from by omega] at h4
      exact W.bind_eq h4 (fin _ _ _ b4)
    · rw [show (bt s (sp3 s 0).2 == 44) = false from by simpa using h3]
      exact no (fun h => h3 h.2.2)
  have hz : s.toList = [] ↔ s.size = 0 := by
    rw [toList_data, ← List.length_eq_zero_iff, Array.length_toList]; exact Iff.rfl
  have hpos : ¬ s.toList = [] → 0 < s.size := fun h2 => by
    have : s.size ≠ 0 := fun e => h2 (hz.2 e)
    omega
  refine W.ite (fun h2 => ?_) (fun h2 => W.pos (by have := hpos h2; omega) ?_)
  · rw [if_neg (fun h3 => by have := hz.1 h2; omega)]
    exact rest
  · by_cases h3 : bt s 0 = 37
    · rw [show (bt s 0 == 37) = true from by simpa using h3, if_pos ⟨hpos h2, h3⟩]
      refine W.step (fun k => spec_ReadRange.j0.eq_2 ..) (W.pos rfl ?_)
      rw [w64 (x := lines - 1) (by omega) (by omega)]
      exact W.ret rfl
    · rw [show (bt s 0 == 37) = false from by simpa using h3, if_neg (fun h => h3 h.2)]
      exact rest
/-- Below a hundred lines both read the same. -/
theorem rr_same (s : ByteArray) {lines : Int} (hl : lines ≤ 99) : srr s lines = irr s lines := by
  unfold srr irr
  by_cases h0 : 1 ≤ lines ∧ lines ≤ 121
  case neg => rw [if_pos h0, if_pos h0]
  have hg : ¬ ¬ (1 ≤ lines ∧ lines ≤ 121) := fun h => h h0
  rw [if_neg hg, if_neg hg]
  by_cases h1 : 0 < s.size ∧ bt s 0 = 37
  · rw [if_pos h1, if_pos h1]
  rw [if_neg h1, if_neg h1]
  have bad : ∀ a b n : Int, ¬ (1 ≤ a ∧ a ≤ lines) → rrOk a b n lines = (-1, -1, 0) := fun a b n h => by unfold rrOk; rw [if_neg (fun h2 => h h2.1)]
  have bad2 : ∀ a b n : Int, (b < a ∨ lines < b) → rrOk a b n lines = (-1, -1, 0) := fun a b n h => by unfold rrOk; rw [if_neg (fun h2 => by omega)]
  have both : (¬ (1 ≤ (rdn s).1 ∧ (rdn s).1 ≤ lines)) → (¬ (1 ≤ (sp3 s 0).1 ∧ (sp3 s 0).1 ≤ lines)) → (if 0 < (sp3 s 0).1 ∧ (sp3 s 0).2 < s.size ∧ bt s (sp3 s 0).2 = 44 then
    rrOk (sp3 s 0).1 (sp3 (s.extract ((sp3 s 0).2 + 1).toNat s.size) ((sp3 s 0).2 + 1)).1 (sp3 (s.extract ((sp3 s 0).2 + 1).toNat s.size) ((sp3 s 0).2 + 1)).2 lines
  else rrOk (sp3 s 0).1 (sp3 s 0).1 (sp3 s 0).2 lines) = (if (rdn s).2 < s.size ∧ bt s (rdn s).2 = 44 then
    (if (rdn (s.extract ((rdn s).2 + 1).toNat s.size)).2 = 0 then (-1, -1, 0) else rrOk (rdn s).1 (rdn (s.extract ((rdn s).2 + 1).toNat s.size)).1 ((rdn s).2 + 1 + (rdn (s.extract ((rdn s).2 + 1).toNat s.size)).2) lines)
  else rrOk (rdn s).1 (rdn s).1 (rdn s).2 lines) := by
    intro hi hp
    rw [bad _ _ _ hi, bad _ _ _ hi, bad _ _ _ hp, bad _ _ _ hp]
    split <;> split <;> (try split) <;> rfl
  rcases num_rel s 0 with ⟨a1, a2⟩ | ⟨a1, a2, a3, a4, a5⟩ | ⟨a1, a2, a3, a4⟩
  · exact both (by omega) (by omega)
  · rw [a5, Int.zero_add]
    dsimp only
    by_cases hc : (rdn s).2 < s.size ∧ bt s (rdn s).2 = 44
    · rw [if_pos ⟨by omega, hc⟩, if_pos hc]
      rcases num_rel (s.extract ((rdn s).2 + 1).toNat s.size) ((rdn s).2 + 1) with ⟨c1, c2⟩ | ⟨c1, c2, c3, c4, c5⟩ | ⟨c1, c2, c3, c4⟩
      · rw [bad2 _ _ _ (by omega), bad2 _ _ _ (by omega)]
        split <;> rfl
      · rw [c5, if_neg (by omega)]
      · rw [bad2 _ _ _ (by omega), bad2 (rdn s).1 _ _ (by omega)]
        split <;> rfl
    · rw [if_neg (fun h => hc h.2), if_neg hc]
  · exact both (by omega) (by omega)
/-- What is read. -/
theorem irr_spec (s : ByteArray) (lines : Int) : irr s lines = (-1, -1, 0) ∨ ((1 ≤ lines ∧ lines ≤ 121) ∧ 0 ≤ (irr s lines).1 ∧ (irr s lines).1 ≤ (irr s lines).2.1 ∧ (irr s lines).2.1 < lines ∧ 1 ≤ (irr s lines).2.2 ∧ (irr s lines).2.2 ≤ s.size) := by
  unfold irr
  by_cases h0 : 1 ≤ lines ∧ lines ≤ 121
  case neg => rw [if_pos h0]; exact .inl rfl
  rw [if_neg (fun h => h h0)]
  by_cases h1 : 0 < s.size ∧ bt s 0 = 37
  · rw [if_pos h1]; right; dsimp only; omega
  rw [if_neg h1]
  have ok : ∀ a b n : Int, (1 ≤ a → a ≤ lines → a ≤ b → b ≤ lines → 1 ≤ n ∧ n ≤ s.size) → rrOk a b n lines = (-1, -1, 0) ∨ ((1 ≤ lines ∧ lines ≤ 121) ∧ 0 ≤ (rrOk a b n lines).1 ∧ (rrOk a b n lines).1 ≤ (rrOk a b n lines).2.1 ∧ (rrOk a b n lines).2.1 < lines ∧ 1 ≤ (rrOk a b n lines).2.2 ∧ (rrOk a b n lines).2.2 ≤ s.size) := by
    intro a b n h
    unfold rrOk
    split
    · rename_i h2
      have := h h2.1.1 h2.1.2 h2.2.1 h2.2.2
      right; dsimp only; omega
    · exact .inl rfl
  obtain ⟨b1, b2, b3, b4⟩ := rdn_bnd s
  have hn := num_rel s 0
  by_cases hc : (rdn s).2 < s.size ∧ bt s (rdn s).2 = 44
  · rw [if_pos hc]
    split
    · exact .inl rfl
    · obtain ⟨c1, c2, c3, c4⟩ := rdn_bnd (s.extract ((rdn s).2 + 1).toNat s.size)
      rw [ByteArray.size_extract] at c4
      exact ok _ _ _ (fun h2 h3 _ _ => by omega)
  · rw [if_neg hc]
    exact ok _ _ _ (fun h2 h3 _ _ => by
      rcases hn with ⟨a1, a2⟩ | ⟨a1, a2, a3, a4, a5⟩ | ⟨a1, a2, a3, a4⟩
      · omega
      · omega
      · omega)
end Go.Proofs.YtmpdbcmbchejmaaDoor.Ev
/- Reading lists. -/
namespace Go.Proofs.YtmpdbcmbchejmaaDoor.Ev
open Go.RowKit Go.Proofs.YtmpdbcmbchejmaaDoorW.PrintWords
theorem rd_take' (xs : List Int) (n : Nat) {i : Int} (h0 : 0 ≤ i) (h : i < n) : rd (xs.take n) i = rd xs i := by
  unfold rd
  rw [List.getD_eq_getElem?_getD, List.getD_eq_getElem?_getD, List.getElem?_take, if_pos (by omega)]
end Go.Proofs.YtmpdbcmbchejmaaDoor.Ev
/- What the printed functions answer, part D: drawn texts. They end, and what they draw is short. -/
namespace Go.Proofs.YtmpdbcmbchejmaaDoor.Ev
open Go.RowKit Go.Proofs.YtmpdbcmbchejmaaDoor.X Go.Proofs.YtmpdbcmbchejmaaDoor.Wp Go.Proofs.YtmpdbcmbchejmaaDoorW.PrintWords
set_option linter.unusedVariables false
set_option linter.unusedSimpArgs false

/-- A reader's bytes. -/
def RB (b : List Int) : Prop := ∀ j : Int, 0 ≤ j → j < b.length → 0 ≤ rd b j ∧ rd b j ≤ 255
theorem RB_of {l : List Int} (h : ∀ x ∈ l, (Lit.int .u8 x).wf = true) : RB l := by
  intro j h0 h1
  have hm : rd l j ∈ l := by
    unfold rd
    rw [List.getD_eq_getElem?_getD, List.getElem?_eq_getElem (by omega)]
    exact List.getElem_mem _
  have := h _ hm
  simp [Lit.wf, IntKind.min, IntKind.max, IntKind.signed, IntKind.bits] at this
  omega
theorem RB_take {l : List Int} (h : RB l) (n : Nat) : RB (l.take n) := by
  intro j h0 h1
  rw [List.length_take] at h1
  rw [rd_take' l n h0 (by omega)]
  exact h j h0 (by omega)

theorem xor_nonneg {a b : Int} (a0 : 0 ≤ a) (a1 : a < 4611686018427387904) (b0 : 0 ≤ b) (b1 : b < 4611686018427387904) : 0 ≤ Go.bits .xor .i64 a b := by
  obtain ⟨x, rfl⟩ := Int.eq_ofNat_of_zero_le a0
  obtain ⟨y, rfl⟩ := Int.eq_ofNat_of_zero_le b0
  have hx : x < 2 ^ 62 := by omega
  have hy : y < 2 ^ 62 := by omega
  have h := Nat.xor_lt_two_pow hx hy
  simp only [Go.bits, BitVec.ofInt_natCast, BitVec.toNat_xor, BitVec.toNat_ofNat]
  rw [Nat.mod_eq_of_lt (show x < 2 ^ IntKind.i64.bits from Nat.lt_of_lt_of_le hx (by decide)), Nat.mod_eq_of_lt (show y < 2 ^ IntKind.i64.bits from Nat.lt_of_lt_of_le hy (by decide))]
  show 0 ≤ IntKind.i64.wrap ((x ^^^ y : Nat) : Int)
  rw [IntKind.wrap_i64]
  omega

theorem tmod_in {a n : Int} (h0 : 0 ≤ a) (h1 : 0 < n) : 0 ≤ Int.tmod a n ∧ Int.tmod a n < n := by
  rw [Int.tmod_eq_emod_of_nonneg h0]
  exact ⟨Int.emod_nonneg _ (by omega), Int.emod_lt_of_pos _ h1⟩

theorem pickW {b : List Int} {p n : Int} (hb : RB b) (hp : 0 ≤ p) (hp2 : p ≤ 1000000000) (hn : n ≤ 1000000000) : W (fun k => spec_l20Rd_pick.f k b p n) (fun r => 0 ≤ r.1 ∧ (r.1 < n ∨ r.1 = 0) ∧ r.2 = p + 1) := by
  unfold spec_l20Rd_pick.f
  rw [w64 (x := p + 1) (by omega) (by omega)]
  have zero : W (fun k => spec_l20Rd_pick.j0 k n true b (p + 1)) (fun r => 0 ≤ r.1 ∧ (r.1 < n ∨ r.1 = 0) ∧ r.2 = p + 1) :=
    W.step (fun k => spec_l20Rd_pick.j0.eq_2 ..) (W.pos rfl (W.ret ⟨by simp, .inr rfl, rfl⟩))
  refine W.ite (fun _ => zero) (fun hn1 => ?_)
  by_cases hl : (b.length : Int) = 0
  · rw [show ((b.length : Int) == 0) = true from by simpa using hl]
    exact zero
  · rw [show ((b.length : Int) == 0) = false from by simpa using hl]
    refine W.step (fun k => spec_l20Rd_pick.j0.eq_2 ..) (W.neg (by decide) ?_)
    rw [w64 (x := p + 1 - 1) (by omega) (by omega), show p + 1 - 1 = p from by omega]
    refine W.ite (fun hlt => W.pos hp (W.neg (by omega) ?_)) (fun hge => W.neg hl ?_)
    · have h := hb p hp hlt
      rw [w64 (x := rd b p) (by omega) (by omega)]
      have := tmod_in (a := rd b p) (n := n) h.1 (by omega)
      exact W.ret ⟨this.1, .inl this.2, rfl⟩
    · rw [w64 (x := p * 7) (by omega) (by omega), w64 (x := p * 7 + 3) (by omega) (by omega), w64 (x := p * 29) (by omega) (by omega)]
      have i1 := tmod_in (a := p) (n := (b.length : Int)) hp (by omega)
      have i2 := tmod_in (a := p * 7 + 3) (n := (b.length : Int)) (by omega) (by omega)
      have h1 := hb _ i1.1 i1.2
      have h2 := hb _ i2.1 i2.2
      have q1 : 0 ≤ Int.tdiv p (b.length : Int) ∧ Int.tdiv p (b.length : Int) ≤ p := by
        rw [Int.tdiv_eq_ediv_of_nonneg hp]
        exact ⟨Int.ediv_nonneg hp (by omega), Int.ediv_le_self _ hp⟩
      refine W.pos i1.1 (W.pos i1.2 (W.pos i2.1 (W.pos i2.2 (W.neg (by omega) ?_))))
      obtain ⟨u, hu⟩ : ∃ u, u = rd b (Int.tmod p (b.length : Int)) := ⟨_, rfl⟩
      obtain ⟨v, hv⟩ : ∃ v, v = rd b (Int.tmod (p * 7 + 3) (b.length : Int)) := ⟨_, rfl⟩
      obtain ⟨q, hq⟩ : ∃ q, q = Int.tdiv p (b.length : Int) := ⟨_, rfl⟩
      rw [← hu] at h1
      rw [← hv] at h2
      rw [← hq] at q1
      rw [← hu, ← hv, ← hq]
      rw [w64 (x := u) (by omega) (by omega), w64 (x := v) (by omega) (by omega), w64 (x := q) (by omega) (by omega), w64 (x := u * 131) (by omega) (by omega), w64 (x := v * 1117) (by omega) (by omega), w64 (x := q * 53) (by omega) (by omega),
        w64 (x := u * 131 + v * 1117) (by omega) (by omega), w64 (x := u * 131 + v * 1117 + p * 29) (by omega) (by omega), w64 (x := u * 131 + v * 1117 + p * 29 + q * 53) (by omega) (by omega)]
      obtain ⟨x, hx⟩ : ∃ x, x = u * 131 + v * 1117 + p * 29 + q * 53 := ⟨_, rfl⟩
      have x0 : 0 ≤ x ∧ x ≤ 1000000000000 := by omega
      rw [← hx]
      have x1 : 0 ≤ Int.tdiv x 64 ∧ Int.tdiv x 64 ≤ x := by
        rw [Int.tdiv_eq_ediv_of_nonneg x0.1]
        omega
      rw [w64 (x := Int.tdiv x 64) (by omega) (by omega)]
      have := tmod_in (n := n) (xor_nonneg (a := x) (b := Int.tdiv x 64) (by omega) (by omega) (by omega) (by omega)) (by omega)
      exact W.ret ⟨this.1, .inl this.2, rfl⟩

theorem oddW {b : List Int} {p n : Int} (hb : RB b) (hp : 0 ≤ p) (hp2 : p ≤ 1000000000) (hn : n ≤ 1000000000) : W (fun k => spec_l20Rd_odd.f k b p n) (fun r => p ≤ r.2 ∧ r.2 ≤ p + 1) := by
  unfold spec_l20Rd_odd.f
  refine W.ite (fun _ => W.bind (pickW hb hp hp2 hn) (fun a ha => W.ret ?_)) (fun _ => W.ret (by dsimp only; omega))
  dsimp only; omega

theorem rdOf_size {parts : List ByteArray} {m : Nat} (h : ∀ x ∈ parts, x.size ≤ m) (i : Int) : (rdOf ByteArray.empty parts i).size ≤ m := by
  unfold rdOf
  rw [List.getD_eq_getElem?_getD]
  cases hx : parts[i.toNat]? with
  | none => simp
  | some y => exact h y (List.mem_of_getElem? hx)

theorem openW {l : List Int} (h : RB l) : ∃ b, spec_l20Open.f l = some (b, 0) ∧ RB b := by
  unfold spec_l20Open.f
  by_cases hl : (l.length : Int) > 2000
  · exact ⟨l.take 2000, by rw [if_pos hl, if_pos (by omega)], RB_take h _⟩
  · exact ⟨l, by rw [if_neg hl], h⟩
end Go.Proofs.YtmpdbcmbchejmaaDoor.Ev
/- What the printed functions answer, part DR: drawn commands. -/
namespace Go.Proofs.YtmpdbcmbchejmaaDoor.Ev
open Go.RowKit Go.Proofs.YtmpdbcmbchejmaaDoor.X Go.Proofs.YtmpdbcmbchejmaaDoor.Wp Go.Proofs.YtmpdbcmbchejmaaDoorW.PrintWords
set_option linter.unusedVariables false
set_option linter.unusedSimpArgs false

theorem commandW {b : List Int} {p n : Int} (hb : RB b) (hp : 0 ≤ p) (hp2 : p ≤ 100000) (hn : n ≤ 1000000000) : W (fun k => spec_l20Command.f k b p n) (fun r => r.1.size ≤ 100 ∧ p ≤ r.2 ∧ r.2 ≤ p + 20) := by
  unfold spec_l20Command.f
  refine W.name (W.bind (pickW hb (by omega) (by omega) (by omega)) (fun c hc => ?_))
  have hc2 : 0 ≤ c.1 ∧ c.1 < 7 := ⟨hc.1, by rcases hc.2.1 with h | h <;> omega⟩
  have h1 := rdOf_size (parts := [(⟨#[49]⟩ : ByteArray), (⟨#[50]⟩ : ByteArray), (⟨#[51]⟩ : ByteArray), (⟨#[49, 44, 50]⟩ : ByteArray), (⟨#[50, 44, 51]⟩ : ByteArray), (⟨#[37]⟩ : ByteArray), (⟨#[49, 44, 49]⟩ : ByteArray)]) (m := 3) (by decide) c.1
  refine W.pos hc2.1 (W.pos (show c.1 < 7 from hc2.2) (W.name (W.bind (pickW hb (by omega) (by omega) (by omega)) (fun d hd => ?_))))
  have hd2 : 0 ≤ d.1 ∧ d.1 < 10 := ⟨hd.1, by rcases hd.2.1 with h | h <;> omega⟩
  have h2 := rdOf_size (parts := [(⟨#[100]⟩ : ByteArray), (⟨#[116, 48]⟩ : ByteArray), (⟨#[116, 49]⟩ : ByteArray), (⟨#[116, 50]⟩ : ByteArray), (⟨#[115, 47, 97, 47, 98, 47]⟩ : ByteArray), (⟨#[115, 47, 97, 47, 47]⟩ : ByteArray), (⟨#[115, 47, 97, 98, 47, 120, 32, 121, 47]⟩ : ByteArray), (⟨#[62]⟩ : ByteArray), (⟨#[60]⟩ : ByteArray), (⟨#[60]⟩ : ByteArray)]) (m := 9) (by decide) d.1
  obtain ⟨A, hA⟩ : ∃ A, A = rdOf ByteArray.empty [(⟨#[49]⟩ : ByteArray), (⟨#[50]⟩ : ByteArray), (⟨#[51]⟩ : ByteArray), (⟨#[49, 44, 50]⟩ : ByteArray), (⟨#[50, 44, 51]⟩ : ByteArray), (⟨#[37]⟩ : ByteArray), (⟨#[49, 44, 49]⟩ : ByteArray)] c.1 := ⟨_, rfl⟩
  obtain ⟨B, hB⟩ : ∃ B, B = rdOf ByteArray.empty [(⟨#[100]⟩ : ByteArray), (⟨#[116, 48]⟩ : ByteArray), (⟨#[116, 49]⟩ : ByteArray), (⟨#[116, 50]⟩ : ByteArray), (⟨#[115, 47, 97, 47, 98, 47]⟩ : ByteArray), (⟨#[115, 47, 97, 47, 47]⟩ : ByteArray), (⟨#[115, 47, 97, 98, 47, 120, 32, 121, 47]⟩ : ByteArray), (⟨#[62]⟩ : ByteArray), (⟨#[60]⟩ : ByteArray), (⟨#[60]⟩ : ByteArray)] d.1 := ⟨_, rfl⟩
  rw [← hA] at h1 ⊢
  rw [← hB] at h2 ⊢
  refine W.pos hd2.1 (W.pos (show d.1 < 10 from hd2.2) (W.pos (by omega) (W.bind (oddW hb (by omega) (by omega) hn) (fun o ho => W.ite (fun _ => ?_) (fun _ => ?_)))))
  · refine W.pos (by omega) (W.pos (by omega) (W.pos (by omega) (W.name (W.bind (pickW hb (by omega) (by omega) (by omega)) (fun e he => ?_)))))
    have he2 : 0 ≤ e.1 ∧ e.1 < 14 := ⟨he.1, by rcases he.2.1 with h | h <;> omega⟩
    have hcat : ∀ X : ByteArray, X.size ≤ 5 → (A ++ X).size ≤ 8 := fun X hX => by rw [ByteArray.size_append]; omega
    have h3 := rdOf_size (parts := [(⟨#[]⟩ : ByteArray), A, (⟨#[100]⟩ : ByteArray), (⟨#[48, 100]⟩ : ByteArray), (⟨#[51, 44, 49, 100]⟩ : ByteArray), A ++ (⟨#[120]⟩ : ByteArray), A ++ (⟨#[115, 47, 97, 47, 98]⟩ : ByteArray), A ++ (⟨#[116]⟩ : ByteArray), A ++ (⟨#[116, 57]⟩ : ByteArray), (⟨#[49, 44, 100]⟩ : ByteArray), (⟨#[48, 49, 100]⟩ : ByteArray), A ++ (⟨#[100, 100]⟩ : ByteArray), A ++ (⟨#[115, 47, 47, 98, 47]⟩ : ByteArray), (⟨#[57, 57, 57, 57, 100]⟩ : ByteArray)]) (m := 8) (by
      intro x hx
      simp only [List.mem_cons, List.not_mem_nil, or_false] at hx
      rcases hx with h | h | h | h | h | h | h | h | h | h | h | h | h | h
      · rw [h]; decide
      · rw [h]; omega
      · rw [h]; decide
      · rw [h]; decide
      · rw [h]; decide
      · rw [h]; exact hcat _ (by decide)
      · rw [h]; exact hcat _ (by decide)
      · rw [h]; exact hcat _ (by decide)
      · rw [h]; exact hcat _ (by decide)
      · rw [h]; decide
      · rw [h]; decide
      · rw [h]; exact hcat _ (by decide)
      · rw [h]; exact hcat _ (by decide)
      · rw [h]; decide) e.1
    exact W.pos he2.1 (W.pos (show e.1 < 14 from he2.2) (W.ret ⟨by dsimp only; omega, by dsimp only; omega, by dsimp only; omega⟩))
  · refine W.ret ⟨?_, by dsimp only; omega, by dsimp only; omega⟩
    dsimp only
    rw [ByteArray.size_append]; omega
theorem seven2 : ∀ i : Int, 0 ≤ i → i < 7 → 0 ≤ rd ([0, 0, 0, 0, 0, 1, 2] : List Int) i ∧ rd ([0, 0, 0, 0, 0, 1, 2] : List Int) i < 3 := by
  intro i h0 h1
  have : i = 0 ∨ i = 1 ∨ i = 2 ∨ i = 3 ∨ i = 4 ∨ i = 5 ∨ i = 6 := by omega
  rcases this with rfl | rfl | rfl | rfl | rfl | rfl | rfl <;> decide
theorem drawRR {l : List Int} (hw : ∀ x ∈ l, (Lit.int .u8 x).wf = true) : W (fun k => spec_DrawReadRange.f k l) (fun r => r.1.size ≤ 100 ∧ (r.2 ≤ 6 ∨ r.2 = 122)) := by
  obtain ⟨b, he, hb⟩ := openW (RB_of hw)
  unfold spec_DrawReadRange.f
  refine W.call he (W.bind (commandW hb (Int.le_refl 0) (by omega) (by omega)) (fun r hr => W.bind (pickW hb hr.2.1 (by have := hr.2.2; omega) (by omega)) (fun c hc => W.name (W.name (W.bind (pickW hb (by have := hr.2.1; omega) (by have := hr.2.2; omega) (by omega)) (fun d hd => ?_))))))
  have hc2 : 0 ≤ c.1 ∧ c.1 < 6 := ⟨hc.1, by rcases hc.2.1 with h | h <;> omega⟩
  have hd2 : 0 ≤ d.1 ∧ d.1 < 7 := ⟨hd.1, by rcases hd.2.1 with h | h <;> omega⟩
  have h7 := seven2 d.1 hd2.1 hd2.2
  rw [show wrap64 (1 + c.1) = 1 + c.1 from by unfold wrap64; omega]
  refine W.pos hd2.1 (W.pos (show d.1 < 7 from hd2.2) (W.pos h7.1 (W.pos (show rd ([0, 0, 0, 0, 0, 1, 2] : List Int) d.1 < 3 from h7.2) (W.ret ⟨hr.1, ?_⟩))))
  dsimp only
  generalize rd ([0, 0, 0, 0, 0, 1, 2] : List Int) d.1 = i at h7
  rcases (by omega : i = 0 ∨ i = 1 ∨ i = 2) with rfl | rfl | rfl
  · left; show 1 + c.1 ≤ 6; omega
  · left; show (0 : Int) ≤ 6; omega
  · right; rfl
end Go.Proofs.YtmpdbcmbchejmaaDoor.Ev
/- What the printed functions answer, part L: 'alive'. -/
namespace Go.Proofs.YtmpdbcmbchejmaaDoor.Ev
open Go.RowKit Go.Proofs.YtmpdbcmbchejmaaDoor.X Go.Proofs.YtmpdbcmbchejmaaDoor.Wp Go.Proofs.YtmpdbcmbchejmaaDoorW.PrintWords
set_option linter.unusedVariables false
set_option linter.unusedSimpArgs false

theorem aliveW : W (fun k => laws_alive.f k) (· = true) := by
  have hv : VT (⟨#[97, 10, 98]⟩ : ByteArray) := by
    refine ⟨by decide, fun j h0 h1 => ?_⟩
    have h3 : ((⟨#[97, 10, 98]⟩ : ByteArray).size : Int) = 3 := rfl
    have : j = 0 ∨ j = 1 ∨ j = 2 := by omega
    rcases this with rfl | rfl | rfl
    · right; decide
    · left; rfl
    · right; decide
  unfold laws_alive.f impl_LineMany.f
  refine W.bind_eq (a := 2) (W.bind_eq (tv_pos (implTV _ (by decide)) hv) (W.pos rfl (W.call (r := 1) rfl (W.ret ?_)))) (W.ret rfl)
  exact w64 (by omega) (by omega)
theorem alive_then : W (fun k => (laws_alive.f k).bind fun t => some t) (· = true) := W.bind_eq aliveW (W.ret rfl)
end Go.Proofs.YtmpdbcmbchejmaaDoor.Ev
namespace Go.Proofs.YtmpdbcmbchejmaaDoor.Pure
open Go.RowKit Go.Proofs.YtmpdbcmbchejmaaDoor.X Go.Proofs.YtmpdbcmbchejmaaDoor.Wp Go.Proofs.YtmpdbcmbchejmaaDoor.Ev Go.Proofs.YtmpdbcmbchejmaaDoorW.PrintWords
set_option linter.unusedVariables false
set_option linter.unusedSimpArgs false

theorem readRangeW (l : List Int) (hw : ∀ x ∈ l, (Lit.int .u8 x).wf = true) : W (fun k => laws_FnReadRange.f k l) (· = true) := by
  unfold laws_FnReadRange.f
  refine W.ite (fun _ => W.ret rfl) (fun _ => W.bind (drawRR hw) (fun d hd => ?_))
  obtain ⟨s, lines⟩ := d
  dsimp only at hd ⊢
  have hsame : srr s lines = irr s lines := by
    rcases hd.2 with h | h
    · exact rr_same s (by omega)
    · subst h; unfold srr irr; rw [if_pos (by decide), if_pos (by decide)]
  refine W.bind_eq (implRR s lines (by omega)) (W.bind_eq (specRR s lines (by omega)) ?_)
  rw [hsame]
  refine W.pos rfl (W.pos rfl ?_)
  rw [show ((irr s lines).2.2 != (irr s lines).2.2) = false from by simp]
  refine W.step (fun k => laws_FnReadRange.j0.eq_2 ..) (W.neg (by decide) ?_)
  rcases irr_spec s lines with h | ⟨h1, h2, h3, h4, h5, h6⟩
  · rw [h]
    exact W.pos (by decide) (W.pos rfl (W.pos rfl (W.pos rfl alive_then)))
  · refine W.neg (by omega) (W.bind_eq (implRR _ lines (by decide)) ?_)
    rw [show irr (⟨#[37]⟩ : ByteArray) lines = (0, lines - 1, 1) from by
      unfold irr
      rw [if_neg (fun h => h h1), if_pos ⟨by decide, rfl⟩]]
    rw [w64 (x := lines - 1) (by omega) (by omega)]
    exact W.pos h3 (W.pos h4 (W.pos h5 (W.pos h6 (W.pos rfl (W.pos rfl (W.ret rfl))))))
theorem FnReadRange : laws_FnReadRange.Pure := fun l _ _ hw => W.rounds (readRangeW l hw)
end Go.Proofs.YtmpdbcmbchejmaaDoor.Pure
