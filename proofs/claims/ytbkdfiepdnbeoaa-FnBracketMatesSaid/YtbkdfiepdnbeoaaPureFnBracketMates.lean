/- For every code, the law on BracketMates answers true: the mate of the mate is the bracket, both are of one kind, the opening one first, and between them every bracket with a mate has it between them. Conditions: none. -/
import Derived.Test.YtbkdfiepdnbeoaaX21
import Derived.Test.YtbkdfiepdnbeoaaEvB
import Derived.Test.YtbkdfiepdnbeoaaEvL
import Derived.Test.YtbkdfiepdnbeoaaEvS
import Derived.Test.YtbkdfiepdnbeoaaEvDB
namespace Go.Proofs.Ytbkdfiepdnbeoaa.Pure
open Go.RowKit Go.Proofs.Ytbkdfiepdnbeoaa.X Go.Proofs.Ytbkdfiepdnbeoaa.Wp Go.Proofs.Ytbkdfiepdnbeoaa.Ev Go.Proofs.Ytbkdfiepdnbeoaa.ThB Go.Proofs.YtbkdfiepdnbeoaaW.PrintWords

theorem sameIntsW (a : List Int) (ha : a.length ≤ 140737488351232) : W (fun k => laws_sameInts.f k a a) (· = true) := by
  unfold laws_sameInts.f
  refine W.pos rfl ?_
  refine W.loop (l := fun i k => laws_sameInts.l0 k a a i) (P := fun _ r => r = true) (fun i : Int => 0 ≤ i ∧ i ≤ a.length) (fun i => (a.length - i).toNat) ?_ 0 ⟨by omega, by omega⟩
  intro i ⟨h0, h1⟩ ih
  refine W.step (fun k => laws_sameInts.l0.eq_2 ..) ?_
  by_cases hlt : i < a.length
  · rw [w64 (x := i + 1) (by omega) (by omega)]
    exact W.pos hlt (W.pos h0 (W.pos hlt (W.pos rfl (ih (i + 1) ⟨by omega, by omega⟩ (by omega)))))
  · exact W.neg hlt (W.ret rfl)

theorem pair_eq (s : ByteArray) {a b : Int} {x y : UInt8} (a0 : 0 ≤ a) (a1 : a < s.size) (b0 : 0 ≤ b) (b1 : b < s.size) (hx : bt s a = x.toNat) (hy : bt s b = y.toNat) :
    s.extract a.toNat (a + 1).toNat ++ s.extract b.toNat (b + 1).toNat = ⟨#[x, y]⟩ := by
  have ha := ext_size s (a := a) (b := a + 1) a0 (by omega) (by omega)
  have hb := ext_size s (a := b) (b := b + 1) b0 (by omega) (by omega)
  have hz : (⟨#[x, y]⟩ : ByteArray).size = 2 := rfl
  have h0 : bt (⟨#[x, y]⟩ : ByteArray) 0 = x.toNat := rfl
  have h1 : bt (⟨#[x, y]⟩ : ByteArray) 1 = y.toNat := rfl
  refine str_ext (by rw [ByteArray.size_append]; omega) (fun i i0 i1 => ?_)
  rw [ByteArray.size_append] at i1
  by_cases e : i = 0
  · subst e
    rw [bt_cat_left _ _ (by omega), bt_ext s a0 (by omega) (by omega) (by omega), h0]
    simpa using hx
  · have e1 : i = 1 := by omega
    subst e1
    rw [bt_cat_right _ _ (by omega), ha, bt_ext s b0 (by omega) (by omega) (by omega), h1, show b + (1 - (a + 1 - a)) = b from by omega]
    exact hy

theorem FnBracketMates : laws_FnBracketMates.Pure := by
  intro l _ _ hw
  refine W.rounds (r := true) ?_
  unfold laws_FnBracketMates.f
  have draw : W (fun k => spec_DrawBracketMates.f k l) (fun s => s.size ≤ 125) := by
    unfold spec_DrawBracketMates.f
    obtain ⟨b, ho, hb⟩ := openW (RB_of hw)
    exact W.call ho (W.bind (nestedW hb (by simp) (by simp) (by omega)) (fun r hr => W.ret hr.1))
  refine W.ite (fun _ => W.ret rfl) (fun _ => W.bind draw (fun s hs => ?_))
  have hs2 : s.size ≤ 140737488351232 := by omega
  refine W.bind_eq (implMates s hs2) (W.bind_eq (specBM s hs2) ?_)
  have hlen : (if VT s then mates s else []).length ≤ 125 := by
    split
    · rw [mates_len]; exact hs
    · simp
  refine W.bind_eq (sameIntsW _ (by omega)) (W.pos rfl (W.bind (specTV s hs2) (fun v hv => W.ite (fun hvt => ?_) (fun hvt => ?_))))
  · have hvs := hv.1 hvt
    rw [if_pos hvs]
    have hm := mates_len s
    have inv := mates_inv s
    refine W.loop (l := fun i k => laws_FnBracketMates.l0 k s (mates s) i) (P := fun _ r => r = true) (fun i : Int => 0 ≤ i ∧ i ≤ s.size) (fun i => (s.size - i).toNat) ?_ 0 ⟨by omega, by omega⟩
    intro i ⟨h0, h1⟩ ih
    refine W.step (fun k => laws_FnBracketMates.l0.eq_2 ..) ?_
    by_cases hlt : i < s.size
    · have next := ih (i + 1) ⟨by omega, by omega⟩ (by omega)
      rw [w64 (x := i + 1) (by omega) (by omega)]
      refine W.pos (by omega) (W.pos h0 (W.ite (fun _ => next) (fun hne => ?_)))
      rcases inv.val i h0 hlt with h | ⟨m0, m1, m2, m3⟩
      · exact absurd h hne
      · refine W.neg (by omega) (W.neg (by omega) (W.pos m0 (W.pos (by omega) (W.pos m2 ?_))))
        rw [show (rd (mates s) i == i) = false from by simpa using m3]
        obtain ⟨lo, hi, hlo, hhi, l0, l1, l2, l3, l4⟩ : ∃ lo hi : Int, mn i (rd (mates s) i) = lo ∧ mx i (rd (mates s) i) = hi ∧ 0 ≤ lo ∧ lo < hi ∧ hi < s.size ∧ rd (mates s) lo = hi ∧ rd (mates s) hi = lo := by
          refine ⟨_, _, rfl, rfl, ?_⟩
          unfold mn mx
          by_cases c : i < rd (mates s) i
          · rw [if_neg (by omega), if_pos c]; exact ⟨h0, c, m1, rfl, m2⟩
          · rw [if_pos (by omega), if_neg c]; exact ⟨m0, by omega, hlt, m2, rfl⟩
        have hk := inv.kind lo l0 (by omega) (by omega)
        rw [l3] at hk
        refine W.step (fun k => laws_FnBracketMates.j1.eq_2 ..) (W.neg (by decide) ?_)
        rw [hlo, hhi, w64 (x := lo + 1) (by omega) (by omega), w64 (x := hi + 1) (by omega) (by omega)]
        have inner : W (fun k => laws_FnBracketMates.j2 k s (mates s) i (rd (mates s) i) false) (· = true) := by
          refine W.step (fun k => laws_FnBracketMates.j2.eq_2 ..) (W.neg (by decide) ?_)
          rw [hlo, w64 (x := lo + 1) (by omega) (by omega)]
          refine W.loop (l := fun j k => laws_FnBracketMates.l1 k s (mates s) i (rd (mates s) i) j) (P := fun _ r => r = true) (fun j : Int => lo < j ∧ j ≤ hi) (fun j => (hi - j).toNat) ?_ (lo + 1) ⟨by omega, by omega⟩
          intro j ⟨j0, j1⟩ ihj
          refine W.step (fun k => laws_FnBracketMates.l1.eq_2 ..) ?_
          rw [hlo, hhi, w64 (x := i + 1) (by omega) (by omega)]
          by_cases hj : j < hi
          · rw [w64 (x := j + 1) (by omega) (by omega)]
            have nj := ihj (j + 1) ⟨by omega, by omega⟩ (by omega)
            have hn := inv.nest lo j l0 (by omega) j0 (by omega)
            refine W.pos hj (W.pos (by omega) (W.pos (by omega) (W.ite (fun _ => nj) (fun hne2 => ?_))))
            rcases hn with h | ⟨a, b⟩
            · exact absurd h hne2
            · exact W.neg (by omega) (W.neg (by omega) nj)
          · exact W.neg hj next
        have size1 := ext_size s (a := lo) (b := lo + 1) l0 (by omega) (by omega)
        have size2 := ext_size s (a := hi) (b := hi + 1) (by omega) (by omega) (by omega)
        refine W.pos l0 (W.pos (by omega) (W.pos (by omega) (W.pos (by omega) (W.pos (by omega) (W.pos (by omega) (W.pos (by omega) ?_))))))
        have pr : ∀ x y : UInt8, bt s lo = x.toNat → bt s hi = y.toNat → s.extract lo.toNat (lo + 1).toNat ++ s.extract hi.toNat (hi + 1).toNat = ⟨#[x, y]⟩ := fun x y hx hy => pair_eq s l0 (by omega) (by omega) l2 hx hy
        have hw2 : (bt s lo = 40 ∧ bt s hi = 41) ∨ (bt s lo = 91 ∧ bt s hi = 93) ∨ (bt s lo = 123 ∧ bt s hi = 125) := by
          have ho := (opens_iff _).1 hk.1
          have hw3 := hk.2
          unfold want at hw3
          split at hw3
          · left; omega
          · split at hw3
            · right; left; omega
            · split at hw3
              · right; right; omega
              · omega
        rcases hw2 with ⟨a, b⟩ | ⟨a, b⟩ | ⟨a, b⟩
        · rw [pr 40 41 a b]
          exact W.pos (by rw [toList_data]) inner
        · rw [pr 91 93 a b]
          exact W.neg (by rw [toList_data]; decide) (W.pos (by rw [toList_data]) inner)
        · rw [pr 123 125 a b]
          refine W.neg (by rw [toList_data]; decide) (W.neg (by rw [toList_data]; decide) ?_)
          rw [show ((⟨#[123, 125]⟩ : ByteArray).toList != [123, 125]) = false from by rw [toList_data]; decide]
          exact inner
    · refine W.neg (by omega) (W.ret ?_)
      simp [hm]
  · rw [if_neg (fun h => hvt (hv.2 h))]
    exact W.pos rfl alive_then
end Go.Proofs.Ytbkdfiepdnbeoaa.Pure
