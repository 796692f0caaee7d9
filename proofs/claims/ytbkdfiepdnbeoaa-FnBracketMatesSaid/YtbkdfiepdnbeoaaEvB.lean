/- What the printed functions answer, part B: brackets. -/
import Derived.Test.YtbkdfiepdnbeoaaX10
import Derived.Test.YtbkdfiepdnbeoaaX12
import Derived.Test.YtbkdfiepdnbeoaaX14
import Derived.Test.YtbkdfiepdnbeoaaX15
import Derived.Test.YtbkdfiepdnbeoaaX3
import Derived.Test.YtbkdfiepdnbeoaaX4
import Derived.Test.YtbkdfiepdnbeoaaX7
import Derived.Test.YtbkdfiepdnbeoaaX9
import Derived.Test.YtbkdfiepdnbeoaaEvA
import Derived.Test.YtbkdfiepdnbeoaaThB2
namespace Go.Proofs.Ytbkdfiepdnbeoaa.Ev
open Go.RowKit Go.Proofs.Ytbkdfiepdnbeoaa.X Go.Proofs.Ytbkdfiepdnbeoaa.Wp Go.Proofs.YtbkdfiepdnbeoaaW.PrintWords Go.Proofs.Ytbkdfiepdnbeoaa.ThB
set_option linter.unusedVariables false
set_option linter.unusedSimpArgs false

theorem u8_eq (c : Int) (h0 : 0 ≤ c) (h1 : c ≤ 255) (v : UInt8) : (v == c.toNat.toUInt8) = decide (c = v.toNat) := by
  rw [Bool.eq_iff_iff]
  simp only [beq_iff_eq, decide_eq_true_eq, ← UInt8.toNat_inj]
  have : (c.toNat.toUInt8).toNat = c.toNat := by
    simp only [Nat.toUInt8, UInt8.toNat_ofNat']
    omega
  rw [this]
  omega
theorem idx_open (c : Int) (h0 : 0 ≤ c) (h1 : c ≤ 255) : strings_IndexByte.f (⟨#[40, 91, 123]⟩ : ByteArray) c = some (if c = 40 then 0 else if c = 91 then 1 else if c = 123 then 2 else -1) := by
  unfold strings_IndexByte.f
  simp only [Lib.indexByte, u8_eq c h0 h1, decide_eq_true_eq]
  congr 1
  by_cases a : c = 40
  · simp [a]
  · by_cases b : c = 91
    · simp [b]
    · by_cases d : c = 123
      · simp [d]
      · simp [a, b, d]
theorem idx_close (c : Int) (h0 : 0 ≤ c) (h1 : c ≤ 255) : strings_IndexByte.f (⟨#[41, 93, 125]⟩ : ByteArray) c = some (if c = 41 then 0 else if c = 93 then 1 else if c = 125 then 2 else -1) := by
  unfold strings_IndexByte.f
  simp only [Lib.indexByte, u8_eq c h0 h1, decide_eq_true_eq]
  congr 1
  by_cases a : c = 41
  · simp [a]
  · by_cases b : c = 93
    · simp [b]
    · by_cases d : c = 125
      · simp [d]
      · simp [a, b, d]
theorem idx_any (c : Int) (h0 : 0 ≤ c) (h1 : c ≤ 255) : ∃ t, strings_IndexByte.f (⟨#[40, 91, 123, 41, 93, 125]⟩ : ByteArray) c = some t ∧ (t ≥ 0 ↔ isBr c) := by
  refine ⟨_, rfl, ?_⟩
  rw [isBr_iff]
  simp only [Lib.indexByte, u8_eq c h0 h1, decide_eq_true_eq]
  by_cases a : c = 40
  · simp [a]
  · by_cases b : c = 91
    · simp [b]
    · by_cases d : c = 123
      · simp [d]
      · by_cases e : c = 41
        · simp [e]
        · by_cases f : c = 93
          · simp [f]
          · by_cases g : c = 125
            · simp [g]
            · simp [a, b, d, e, f, g]
theorem opens_iff (c : Int) : opens c = true ↔ (c = 40 ∨ c = 91 ∨ c = 123) := by
  unfold opens
  simp only [Bool.or_eq_true, beq_iff_eq]
  omega
theorem want_open {c : Int} (h : opens c = true) : want c = 0 := by
  rw [opens_iff] at h
  unfold want
  rw [if_neg (by omega), if_neg (by omega), if_neg (by omega)]

theorem set_left {A B : List Int} {j : Nat} (v : Int) (h : j < A.length) : (A ++ B).set j v = A.set j v ++ B := by
  rw [List.set_append, if_pos h]

theorem rep_set {M : List Int} {i n : Nat} (hl : M.length = i) (h : i < n) (v : Int) : (M ++ List.replicate (n - i) 0).set i v = (M ++ [v]) ++ List.replicate (n - (i + 1)) 0 := by
  obtain ⟨d, hd⟩ : ∃ d, n - i = d + 1 := ⟨n - i - 1, by omega⟩
  rw [hd, show n - (i + 1) = d from by omega, List.replicate_succ, List.set_append, if_neg (by omega), hl, Nat.sub_self]
  simp

theorem implMates (s : ByteArray) (hs : s.size ≤ 140737488351232) : W (fun k => impl_BracketMates.f k s) (fun M => M = if VT s then mates s else []) := by
  unfold impl_BracketMates.f
  refine W.bind (implTV s hs) (fun b hb => W.ite (fun h => ?_) (fun h => ?_))
  · have hv := hb.1 h
    have hsz := hv.1
    rw [if_pos hv]
    refine W.pos (by omega) (W.pos (by omega) ?_)
    have key : ∀ i : Nat, i ≤ s.size → W (fun k => impl_BracketMates.l0 k s ((brun s i).1 ++ List.replicate (s.size - i) 0) (brun s i).2 s.size i) (fun M => M = mates s) := by
      refine W.loop (l := fun i k => impl_BracketMates.l0 k s ((brun s i).1 ++ List.replicate (s.size - i) 0) (brun s i).2 s.size i) (P := fun _ M => M = mates s) (fun i : Nat => i ≤ s.size) (fun i => s.size - i) ?_
      intro i hi ih
      refine W.step (fun k => impl_BracketMates.l0.eq_2 ..) ?_
      have inv := inv_run s i
      have hl := inv.len
      have hlen : (((brun s i).1 ++ List.replicate (s.size - i) 0).length : Int) = s.size := by
        rw [List.length_append, List.length_replicate, hl]; omega
      have hr := bt_range s i
      have hV : (brun s i).2.length ≤ i := by
        have hnd : ∀ V : List Int, (∀ k : Int, 0 ≤ k → k < V.length → k ≤ rd V k) → ∀ n : Int, (∀ k : Int, 0 ≤ k → k < V.length → rd V k < n) → 0 ≤ n → (V.length : Int) ≤ n := by
          intro V h1 n h2 h3
          by_cases h0 : V.length = 0
          · omega
          · have a := h1 (V.length - 1) (by omega) (by omega)
            have b := h2 (V.length - 1) (by omega) (by omega)
            omega
        have h1 : ∀ k : Nat, k < (brun s i).2.length → (k : Int) ≤ rd (brun s i).2 k := by
          intro k
          induction k with
          | zero => intro h; have := inv.vlt 0 (by omega) (by omega); exact this.1
          | succ k ihk =>
            intro h
            have a := ihk (by omega)
            have b := inv.vinc k (k + 1 : Nat) (by omega) (by omega) (by omega)
            omega
        have := hnd (brun s i).2 (fun k h0 h1' => by
          have := h1 k.toNat (by omega)
          rw [show ((k.toNat : Nat) : Int) = k from by omega] at this
          exact this) i (fun k h0 h1' => (inv.vlt k h0 h1').2.1) (by omega)
        omega
      by_cases hlt : i < s.size
      · have next := ih (i + 1) (by omega) (by omega)
        have e1 : (((i + 1 : Nat) : Int)) = (i : Int) + 1 := by omega
        rw [e1, show brun s (i + 1) = bstep s (brun s i).1 (brun s i).2 i from rfl] at next
        have en : ((i : Nat) : Int).toNat = i := by omega
        rw [en, rep_set hl hlt, w64 (x := (i : Int) + 1) (by omega) (by omega), w64 (x := ((brun s i).2.length : Int) - 1) (by omega) (by omega)]
        refine W.pos (by omega) (W.pos (by omega) (W.pos (by omega) (W.name (W.pos (by omega) (W.call (idx_open _ hr.1 hr.2) ?_)))))
        by_cases ho : opens (bt s i) = true
        · have hw := want_open ho
          have hc := (opens_iff _).1 ho
          unfold bstep at next
          rw [if_pos ho] at next
          have e2 : (if bt s i = 40 then (0 : Int) else if bt s i = 91 then 1 else if bt s i = 123 then 2 else -1) ≥ 0 := by
            repeat' split
            all_goals omega
          refine W.pos e2 (W.pos (by omega) (W.name (W.call (idx_close _ hr.1 hr.2) ?_)))
          rw [if_neg (show ¬ bt s i = 41 by omega), if_neg (show ¬ bt s i = 93 by omega), if_neg (show ¬ bt s i = 125 by omega)]
          exact W.neg (by omega) next
        · have hc : ¬ (bt s i = 40 ∨ bt s i = 91 ∨ bt s i = 123) := fun h => ho ((opens_iff _).2 h)
          rw [if_neg (show ¬ bt s i = 40 by omega), if_neg (show ¬ bt s i = 91 by omega), if_neg (show ¬ bt s i = 123 by omega)]
          refine W.neg (by omega) (W.call (idx_close _ hr.1 hr.2) ?_)
          unfold bstep at next
          rw [if_neg ho] at next
          by_cases hw : want (bt s i) = 0
          · rw [if_neg (fun h => h.1 hw)] at next
            have hc2 : ¬ (bt s i = 41 ∨ bt s i = 93 ∨ bt s i = 125) := by
              intro h
              unfold want at hw
              rcases h with h | h | h <;> rw [h] at hw <;> exact absurd hw (by decide)
            rw [if_neg (show ¬ bt s i = 41 by omega), if_neg (show ¬ bt s i = 93 by omega), if_neg (show ¬ bt s i = 125 by omega)]
            exact W.neg (by omega) next
          · obtain ⟨t, ht, ht0, ht3, htw⟩ : ∃ t : Int, (if bt s i = 41 then (0 : Int) else if bt s i = 93 then 1 else if bt s i = 125 then 2 else -1) = t ∧ 0 ≤ t ∧ t < 3 ∧ bt (⟨#[40, 91, 123]⟩ : ByteArray) t = want (bt s i) := by
              unfold want at hw ⊢
              by_cases a : bt s i = 41
              · exact ⟨0, by rw [if_pos a], by omega, by omega, by rw [if_pos a]; rfl⟩
              · by_cases b : bt s i = 93
                · exact ⟨1, by rw [if_neg a, if_pos b], by omega, by omega, by rw [if_neg a, if_pos b]; rfl⟩
                · by_cases d : bt s i = 125
                  · exact ⟨2, by rw [if_neg a, if_neg b, if_pos d], by omega, by omega, by rw [if_neg a, if_neg b, if_pos d]; rfl⟩
                  · rw [if_neg a, if_neg b, if_neg d] at hw; exact absurd rfl hw
            rw [ht]
            refine W.pos (by omega) ?_
            by_cases hV0 : (brun s i).2 = []
            · rw [if_neg (fun h => h.2.1 hV0)] at next
              have : (brun s i).2.length = 0 := by rw [hV0]; rfl
              exact W.neg (by omega) next
            · have hp := length_pos hV0
              obtain ⟨t0, t1, t2, t3⟩ := inv.vlt ((brun s i).2.length - 1) (by omega) (by omega)
              refine W.pos (by omega) (W.pos (by omega) (W.pos (by omega) (W.pos (by omega) (W.pos (by omega) (W.pos (by omega) (W.pos (by omega) ?_))))))
              rw [htw]
              by_cases hm : bt s (rd (brun s i).2 ((brun s i).2.length - 1)) = want (bt s i)
              · rw [if_pos ⟨hw, hV0, hm⟩] at next
                refine W.pos hm (W.pos (by omega) (W.pos (by omega) ?_))
                rw [set_left _ (by simp [hl]), set_left _ (by simp [hl]; omega), show (((brun s i).2.length : Int) - 1).toNat = (brun s i).2.length - 1 from by omega]
                rw [en] at next
                exact next
              · rw [if_neg (fun h => hm h.2.2)] at next
                exact W.neg hm next
      · have e : i = s.size := by omega
        subst e
        exact W.neg (by omega) (W.ret (by simp [mates]))
    have := key 0 (by omega)
    simpa [brun] using this
  · rw [if_neg (fun hv => h (hb.2 hv))]
    exact W.ret rfl

theorem brun_len (s : ByteArray) (i : Nat) : (brun s i).2.length ≤ i := by
  have inv := inv_run s i
  have h1 : ∀ k : Nat, k < (brun s i).2.length → (k : Int) ≤ rd (brun s i).2 k := by
    intro k
    induction k with
    | zero => intro h; have := inv.vlt 0 (by omega) (by omega); exact this.1
    | succ k ihk =>
      intro h
      have a := ihk (by omega)
      have b := inv.vinc k (k + 1 : Nat) (by omega) (by omega) (by omega)
      omega
  by_cases h0 : (brun s i).2.length = 0
  · omega
  · have a := h1 ((brun s i).2.length - 1) (by omega)
    have b := (inv.vlt (((brun s i).2.length - 1 : Nat) : Int) (by omega) (by omega)).2.1
    omega

theorem specMates (s : ByteArray) (hs : s.size ≤ 120) : W (fun k => spec_l16Mates.f k s) (fun M => M = mates s) := by
  unfold spec_l16Mates.f
  have key : ∀ i : Nat, i ≤ s.size → s.size ≤ 120 → W (fun k => spec_l16Mates.l0 k s (brun s i).1 (brun s i).2 i) (fun M => M = mates s) := by
    intro i0 hi0 _
    refine W.loop (l := fun i k => spec_l16Mates.l0 k s (brun s i).1 (brun s i).2 i) (P := fun _ M => M = mates s) (fun i : Nat => i ≤ s.size) (fun i => s.size - i) ?_ i0 hi0
    intro i hi ih
    refine W.step (fun k => spec_l16Mates.l0.eq_2 ..) ?_
    have inv := inv_run s i
    have hl := inv.len
    have hr := bt_range s i
    have hV := brun_len s i
    by_cases hlt : i < s.size
    · have next := ih (i + 1) (by omega) (by omega)
      have e1 : (((i + 1 : Nat) : Int)) = (i : Int) + 1 := by omega
      rw [e1, show brun s (i + 1) = bstep s (brun s i).1 (brun s i).2 i from rfl] at next
      have en : ((i : Nat) : Int).toNat = i := by omega
      have hml : (((brun s i).1 ++ [-1]).length : Int) = i + 1 := by simp [hl]
      refine W.pos (by omega) (W.pos (by omega) (W.name (W.pos (by omega) ?_)))
      have main : ∀ b : Bool, b = opens (bt s i) → W (fun k => spec_l16Mates.j1 k s ((brun s i).1 ++ [-1]) (brun s i).2 i 0 (bt s i) b) (fun M => M = mates s) := by
        intro b hb
        refine W.step (fun k => spec_l16Mates.j1.eq_2 ..) ?_
        rw [w64 (x := (i : Int) + 1) (by omega) (by omega), w64 (x := ((brun s i).2.length : Int) - 1) (by omega) (by omega)]
        by_cases ho : opens (bt s i) = true
        · unfold bstep at next
          rw [if_pos ho] at next
          exact W.pos (by rw [hb]; exact ho) (W.pos (by omega) (W.name (W.pos rfl next)))
        · unfold bstep at next
          rw [if_neg ho] at next
          refine W.neg (by rw [hb]; exact ho) ?_
          have closing : ∀ q, want (bt s i) = q → q ≠ 0 → W (fun k => if ((brun s i).2.length : Int) - 1 ≥ 0 then (if 0 ≤ ((brun s i).2.length : Int) - 1 then (if ((brun s i).2.length : Int) - 1 < ((brun s i).2.length : Int) then (if 0 ≤ rd (brun s i).2 (((brun s i).2.length : Int) - 1) then (if rd (brun s i).2 (((brun s i).2.length : Int) - 1) < (s.size : Int) then (if bt s (rd (brun s i).2 (((brun s i).2.length : Int) - 1)) = q then (if 0 ≤ (i : Int) then (if (i : Int) < (((brun s i).1 ++ [-1]).length : Int) then (if rd (brun s i).2 (((brun s i).2.length : Int) - 1) < (((brun s i).1 ++ [-1]).length : Int) then (if ((brun s i).2.length : Int) - 1 ≤ ((brun s i).2.length : Int) then (spec_l16Mates.l0 k s ((((brun s i).1 ++ [-1]).set (i : Int).toNat (rd (brun s i).2 (((brun s i).2.length : Int) - 1))).set (rd (brun s i).2 (((brun s i).2.length : Int) - 1)).toNat i) ((brun s i).2.take (((brun s i).2.length : Int) - 1).toNat) ((i : Int) + 1)) else none) else none) else none) else none) else (spec_l16Mates.l0 k s ((brun s i).1 ++ [-1]) (brun s i).2 ((i : Int) + 1))) else none) else none) else none) else none) else (spec_l16Mates.l0 k s ((brun s i).1 ++ [-1]) (brun s i).2 ((i : Int) + 1))) (fun M => M = mates s) := by
            intro q hq hq0
            by_cases hV0 : (brun s i).2 = []
            · rw [if_neg (fun h => h.2.1 hV0)] at next
              have : (brun s i).2.length = 0 := by rw [hV0]; rfl
              exact W.neg (by omega) next
            · have hp := length_pos hV0
              obtain ⟨t0, t1, t2, t3⟩ := inv.vlt ((brun s i).2.length - 1) (by omega) (by omega)
              refine W.pos (by omega) (W.pos (by omega) (W.pos (by omega) (W.pos (by omega) (W.pos (by omega) ?_))))
              by_cases hm : bt s (rd (brun s i).2 ((brun s i).2.length - 1)) = q
              · rw [if_pos ⟨by omega, hV0, by rw [hq]; exact hm⟩] at next
                refine W.pos hm (W.pos (by omega) (W.pos (by omega) (W.pos (by omega) (W.pos (by omega) ?_))))
                rw [show (((brun s i).2.length : Int) - 1).toNat = (brun s i).2.length - 1 from by omega]
                exact next
              · rw [if_neg (fun h => hm (by rw [← hq]; exact h.2.2))] at next
                exact W.neg hm next
          refine W.ite (fun a => closing 40 (by rw [a]; rfl) (by omega)) (fun a => W.ite (fun b' => closing 91 (by rw [b']; rfl) (by omega)) (fun b' => W.ite (fun d => closing 123 (by rw [d]; rfl) (by omega)) (fun d => ?_)))
          have hw : want (bt s i) = 0 := by unfold want; rw [if_neg a, if_neg b', if_neg d]
          rw [if_neg (fun h => h.1 hw)] at next
          exact W.pos rfl next
      refine W.ite (fun a => main _ ?_) (fun a => W.ite (fun b => main _ ?_) (fun b => main _ ?_))
      · rw [a]; rfl
      · rw [b]; rfl
      · unfold opens
        rw [show (bt s i == 40) = false from by simpa using a, show (bt s i == 91) = false from by simpa using b]
        rfl
    · have e : i = s.size := by omega
      subst e
      exact W.neg (by omega) (W.ret rfl)
  have := key 0 (by omega) hs
  simpa [brun] using this

theorem specBM (s : ByteArray) (hs : s.size ≤ 140737488351232) : W (fun k => spec_BracketMates.f k s) (fun M => M = if VT s then mates s else []) := by
  unfold spec_BracketMates.f
  refine W.bind (specTV s hs) (fun b hb => W.ite (fun h => ?_) (fun h => ?_))
  · rw [if_pos (hb.1 h)]
    exact W.bind_eq (specMates s (hb.1 h).1) (W.ret rfl)
  · rw [if_neg (fun hv => h (hb.2 hv))]
    exact W.ret rfl

def faultB (s : ByteArray) (j : Int) : Prop := rd (mates s) j < 0 ∧ isBr (bt s j)
def FaultR (s : ByteArray) (r : Int) : Prop := (VT s ∧ First (faultB s) s.size r) ∨ (¬ VT s ∧ r = -1)
theorem FaultR.uniq {s : ByteArray} {r r' : Int} (h : FaultR s r) (h' : FaultR s r') : r = r' := by
  rcases h with ⟨hv, h⟩ | ⟨hv, rfl⟩
  · rcases h' with ⟨_, h'⟩ | ⟨hv', _⟩
    · exact h.uniq h'
    · exact absurd hv hv'
  · rcases h' with ⟨hv', _⟩ | ⟨_, rfl⟩
    · exact absurd hv' hv
    · rfl
theorem implFault (s : ByteArray) (hs : s.size ≤ 140737488351232) : W (fun k => impl_BracketFault.f k s) (FaultR s) := by
  unfold impl_BracketFault.f
  refine W.bind_eq (implMates s hs) ?_
  by_cases hv : VT s
  · rw [if_pos hv]
    refine W.mono ?_ (fun r (hr : First (faultB s) s.size r) => .inl ⟨hv, hr⟩)
    have hm := mates_len s
    refine W.loop (l := fun i k => impl_BracketFault.l0 k s (mates s) (mates s).length i) (P := fun _ r => First (faultB s) s.size r) (fun i : Int => 0 ≤ i ∧ i ≤ s.size ∧ ∀ j, 0 ≤ j → j < i → ¬ faultB s j) (fun i => (s.size - i).toNat) ?_ 0 ⟨by omega, by omega, fun j h0 h1 => by omega⟩
    intro i ⟨h0, h1, h2⟩ ih
    refine W.step (fun k => impl_BracketFault.l0.eq_2 ..) ?_
    by_cases hlt : i < s.size
    · have hr := bt_range s i
      rw [w64 (x := i + 1) (by omega) (by omega)]
      refine W.pos (by omega) (W.pos (by omega) (W.pos (by omega) ?_))
      have next : ¬ faultB s i → W (fun k => impl_BracketFault.l0 k s (mates s) (mates s).length (i + 1)) (fun r => First (faultB s) s.size r) := fun hb =>
        ih (i + 1) ⟨by omega, by omega, fun j h3 h4 => by
          by_cases e : j = i
          · subst e; exact hb
          · exact h2 j h3 (by omega)⟩ (by omega)
      refine W.ite (fun hneg => W.pos (by omega) ?_) (fun hneg => next (fun h => hneg h.1))
      obtain ⟨t, ht, hti⟩ := idx_any (bt s i) hr.1 hr.2
      refine W.call ht (W.ite (fun hp => W.ret (.inr ⟨h0, hlt, ⟨hneg, hti.1 hp⟩, h2⟩)) (fun hp => next (fun h => hp (hti.2 h.2))))
    · exact W.neg (by omega) (W.ret (.inl ⟨rfl, fun j h3 h4 => h2 j h3 (by omega)⟩))
  · rw [if_neg hv]
    refine W.step (fun k => impl_BracketFault.l0.eq_2 ..) ?_
    exact W.neg (by simp) (W.ret (.inr ⟨hv, rfl⟩))
theorem specFault (s : ByteArray) (hs : s.size ≤ 140737488351232) : W (fun k => spec_BracketFault.f k s) (FaultR s) := by
  unfold spec_BracketFault.f
  refine W.bind_eq (specBM s hs) ?_
  by_cases hv : VT s
  · rw [if_pos hv]
    refine W.mono ?_ (fun r (hr : First (faultB s) s.size r) => .inl ⟨hv, hr⟩)
    have hm := mates_len s
    refine W.loop (l := fun i k => spec_BracketFault.l0 k s (mates s) i) (P := fun _ r => First (faultB s) s.size r) (fun i : Int => 0 ≤ i ∧ i ≤ s.size ∧ ∀ j, 0 ≤ j → j < i → ¬ faultB s j) (fun i => (s.size - i).toNat) ?_ 0 ⟨by omega, by omega, fun j h0 h1 => by omega⟩
    intro i ⟨h0, h1, h2⟩ ih
    refine W.step (fun k => spec_BracketFault.l0.eq_2 ..) ?_
    by_cases hlt : i < s.size
    · rw [w64 (x := i + 1) (by omega) (by omega)]
      refine W.pos (by omega) (W.pos (by omega) ?_)
      have next : ¬ faultB s i → W (fun k => spec_BracketFault.l0 k s (mates s) (i + 1)) (fun r => First (faultB s) s.size r) := fun hb =>
        ih (i + 1) ⟨by omega, by omega, fun j h3 h4 => by
          by_cases e : j = i
          · subst e; exact hb
          · exact h2 j h3 (by omega)⟩ (by omega)
      refine W.ite (fun hneg => W.pos (by omega) ?_) (fun hneg => next (fun h => hneg h.1))
      have yes : isBr (bt s i) → W (fun _ => some i) (fun r => First (faultB s) s.size r) := fun h => W.ret (.inr ⟨h0, hlt, ⟨hneg, h⟩, h2⟩)
      rw [isBr_iff] at yes
      refine W.ite (fun h => yes (by omega)) (fun h40 => W.ite (fun h => yes (by omega)) (fun h41 => W.ite (fun h => yes (by omega)) (fun h91 => W.ite (fun h => yes (by omega)) (fun h93 => W.ite (fun h => yes (by omega)) (fun h123 => W.ite (fun h => yes (by omega)) (fun h125 => next (fun h => ?_)))))))
      have := (isBr_iff _).1 h.2
      omega
    · exact W.neg (by omega) (W.ret (.inl ⟨rfl, fun j h3 h4 => h2 j h3 (by omega)⟩))
  · rw [if_neg hv]
    refine W.step (fun k => spec_BracketFault.l0.eq_2 ..) ?_
    exact W.neg (by simp) (W.ret (.inr ⟨hv, rfl⟩))

theorem implAround (s : ByteArray) (p : Int) (h0 : 0 ≤ p) (hp : p ≤ s.size) (hs : s.size ≤ 120) : W (fun k => impl_around.f k (mates s) p) (fun r => r = aro (mates s) p p.toNat) := by
  unfold impl_around.f
  have hm := mates_len s
  have key := W.loop (l := fun i k => impl_around.l0 k (mates s) p (aro (mates s) p i) p i) (P := fun _ r => r = aro (mates s) p p.toNat) (fun i : Nat => i ≤ p.toNat) (fun i => p.toNat - i) (by
    intro i hi ih
    refine W.step (fun k => impl_around.l0.eq_2 ..) ?_
    by_cases hlt : (i : Int) < p
    · have hle := aro_len_le (mates s) p i
      have next := ih (i + 1) (by omega) (by omega)
      rw [aro_succ, show (((i + 1 : Nat) : Int)) = (i : Int) + 1 from by omega] at next
      rw [w64 (x := (i : Int) + 1) (by omega) (by omega)]
      refine W.pos hlt (W.pos (by omega) (W.pos (by omega) ?_))
      by_cases hc : rd (mates s) i ≥ p
      · rw [if_pos hc] at next
        exact W.pos (by omega) (W.pos hc (W.pos (by omega) next))
      · rw [if_neg hc] at next
        exact W.ite (fun _ => W.neg hc next) (fun _ => next)
    · have e : i = p.toNat := by omega
      subst e
      exact W.neg hlt (W.ret rfl)) 0 (by omega)
  exact key

theorem implDepth (s : ByteArray) (p : Int) (hs : s.size ≤ 140737488351232) : W (fun k => impl_BracketDepth.f k s p) (fun r => r = if VT s ∧ 0 ≤ p ∧ p ≤ s.size then depth s p else -1) := by
  unfold impl_BracketDepth.f
  refine W.bind (implPlace s p hs) (fun b hb => W.ite (fun h => ?_) (fun h => ?_))
  · have hv := hb.1 h
    rw [if_pos hv]
    refine W.bind_eq (implMates s hs) ?_
    rw [if_pos hv.1]
    exact W.bind_eq (implAround s p hv.2.1 hv.2.2 hv.1.1) (W.ret rfl)
  · rw [if_neg (fun hv => h (hb.2 hv))]
    exact W.ret rfl

theorem specDepth (s : ByteArray) (p : Int) (hs : s.size ≤ 140737488351232) : W (fun k => spec_BracketDepth.f k s p) (fun r => r = if VT s ∧ 0 ≤ p ∧ p ≤ s.size then depth s p else -1) := by
  unfold spec_BracketDepth.f
  have out : ¬ (VT s ∧ 0 ≤ p ∧ p ≤ s.size) → W (fun k => spec_BracketDepth.j0 k s p true) (fun r => r = if VT s ∧ 0 ≤ p ∧ p ≤ s.size then depth s p else -1) := fun hv => by
    refine W.step (fun k => spec_BracketDepth.j0.eq_2 ..) (W.pos rfl (W.ret ?_))
    rw [if_neg hv]
  refine W.bind (specTV s hs) (fun b hb => W.ite (fun h => W.call (l1In_eq ..) ?_) (fun h => out (fun hv => h (hb.2 hv.1))))
  by_cases hp : 0 ≤ p ∧ p ≤ s.size
  · have hv := hb.1 h
    rw [if_pos ⟨hv, hp⟩]
    refine W.step (fun k => spec_BracketDepth.j0.eq_2 ..) (W.neg (by simp [hp.1, hp.2]) ?_)
    refine W.bind_eq (specMates s hv.1) ?_
    have hm := mates_len s
    have hsz := hv.1
    have key := W.loop (l := fun i k => spec_BracketDepth.l0 k p (mates s) (aro (mates s) p i).length i) (P := fun _ r => r = depth s p) (fun i : Nat => i ≤ p.toNat) (fun i => p.toNat - i) (by
      intro i hi ih
      refine W.step (fun k => spec_BracketDepth.l0.eq_2 ..) ?_
      have hle := aro_len_le (mates s) p i
      by_cases hlt : (i : Int) < p
      · have next := ih (i + 1) (by omega) (by omega)
        rw [aro_succ, show (((i + 1 : Nat) : Int)) = (i : Int) + 1 from by omega] at next
        rw [w64 (x := (i : Int) + 1) (by omega) (by omega), w64 (x := ((aro (mates s) p i).length : Int) + 1) (by omega) (by omega)]
        refine W.pos hlt (W.pos (by omega) (W.pos (by omega) ?_))
        by_cases hc : rd (mates s) i ≥ p
        · rw [if_pos hc] at next
          have e : (((aro (mates s) p i ++ [(i : Int)]).length : Nat) : Int) = (aro (mates s) p i).length + 1 := by simp
          rw [e] at next
          exact W.pos hc next
        · rw [if_neg hc] at next
          exact W.neg hc next
      · have e : i = p.toNat := by omega
        subst e
        exact W.neg hlt (W.ret rfl)) 0 (by omega)
    exact key
  · have := out (fun hv => hp hv.2)
    rw [show (!decide (0 ≤ p ∧ p ≤ (s.size : Int))) = true from by rw [decide_eq_false hp]; rfl]
    exact this

/-- The innermost pair around p. -/
def Inner (s : ByteArray) (p : Int) (r : Int × Int) : Prop :=
  (depth s p = 0 ∧ r = (-1, -1)) ∨ (0 < depth s p ∧ 0 ≤ r.1 ∧ r.1 < p ∧ rd (mates s) r.1 ≥ p ∧ (∀ j, r.1 < j → j < p → rd (mates s) j < p) ∧ r.2 = rd (mates s) r.1)
theorem Inner.uniq {s : ByteArray} {p : Int} {r r' : Int × Int} (h : Inner s p r) (h' : Inner s p r') : r = r' := by
  rcases h with ⟨h0, rfl⟩ | ⟨h0, h1, h2, h3, h4, h5⟩
  · rcases h' with ⟨_, rfl⟩ | ⟨h0', _⟩
    · rfl
    · omega
  · rcases h' with ⟨h0', _⟩ | ⟨h0', h1', h2', h3', h4', h5'⟩
    · omega
    · have e : r.1 = r'.1 := by
        by_cases a : r.1 < r'.1
        · have := h4 r'.1 a h2'; omega
        · by_cases b : r'.1 < r.1
          · have := h4' r.1 b h2; omega
          · omega
      exact Prod.ext e (by rw [h5, h5', e])
def AroundR (s : ByteArray) (p : Int) (r : Int × Int) : Prop := ((VT s ∧ 0 ≤ p ∧ p ≤ s.size) ∧ Inner s p r) ∨ (¬ (VT s ∧ 0 ≤ p ∧ p ≤ s.size) ∧ r = (-1, -1))
theorem AroundR.uniq {s : ByteArray} {p : Int} {r r' : Int × Int} (h : AroundR s p r) (h' : AroundR s p r') : r = r' := by
  rcases h with ⟨hv, h⟩ | ⟨hv, rfl⟩
  · rcases h' with ⟨_, h'⟩ | ⟨hv', _⟩
    · exact h.uniq h'
    · exact absurd hv hv'
  · rcases h' with ⟨hv', _⟩ | ⟨_, rfl⟩
    · exact absurd hv' hv
    · rfl
theorem depth_pos {s : ByteArray} {p : Int} (h : aro (mates s) p p.toNat ≠ []) : 0 < depth s p := by
  have := length_pos h
  unfold depth
  omega

theorem implBA (s : ByteArray) (p : Int) (hs : s.size ≤ 140737488351232) : W (fun k => impl_BracketAround.f k s p) (AroundR s p) := by
  unfold impl_BracketAround.f
  refine W.bind (implPlace s p hs) (fun b hb => W.ite (fun h => ?_) (fun h => ?_))
  · have hv := hb.1 h
    refine W.mono ?_ (fun r (hr : Inner s p r) => .inl ⟨hv, hr⟩)
    have hm := mates_len s
    have hsz := hv.1.1
    refine W.bind_eq (implMates s hs) ?_
    rw [if_pos hv.1]
    refine W.bind_eq (implAround s p hv.2.1 hv.2.2 hsz) ?_
    by_cases he : aro (mates s) p p.toNat = []
    · have hd : depth s p = 0 := by unfold depth; rw [he]; rfl
      rw [he]
      exact W.pos rfl (W.ret (.inl ⟨hd, rfl⟩))
    · obtain ⟨a, h1, h2, h3, h4, h5⟩ := aro_last (mates s) p p.toNat he
      have hle := aro_len_le (mates s) p p.toNat
      have hp := length_pos he
      rw [w64 (x := ((aro (mates s) p p.toNat).length : Int) - 1) (by omega) (by omega), h1]
      refine W.neg (by omega) (W.pos (by omega) (W.pos (by omega) (W.pos (by omega) (W.pos (by omega) (W.ret (.inr ⟨depth_pos he, h2, by omega, h4, fun j h6 h7 => h5 j h6 (by omega), rfl⟩))))))
  · exact W.ret (.inr ⟨fun hv => h (hb.2 hv), rfl⟩)

theorem specBA (s : ByteArray) (p : Int) (hs : s.size ≤ 140737488351232) : W (fun k => spec_BracketAround.f k s p) (AroundR s p) := by
  unfold spec_BracketAround.f
  refine W.bind_eq (specDepth s p hs) ?_
  by_cases hv : VT s ∧ 0 ≤ p ∧ p ≤ s.size
  · rw [if_pos hv]
    refine W.mono ?_ (fun r (hr : Inner s p r) => .inl ⟨hv, hr⟩)
    have hm := mates_len s
    have hsz := hv.1.1
    by_cases hd : depth s p < 1
    · refine W.pos hd (W.ret (.inl ⟨?_, rfl⟩))
      have : 0 ≤ depth s p := by unfold depth; omega
      omega
    · refine W.neg hd (W.bind_eq (specMates s hsz) ?_)
      rw [w64 (x := p - 1) (by omega) (by omega)]
      have he : aro (mates s) p p.toNat ≠ [] := fun e => hd (by unfold depth; rw [e]; decide)
      obtain ⟨a, h1, h2, h3, h4, h5⟩ := aro_last (mates s) p p.toNat he
      refine W.loop (l := fun i k => spec_BracketAround.l0 k p (mates s) i) (P := fun _ r => Inner s p r) (fun i : Int => a ≤ i ∧ i < p ∧ ∀ j, i < j → j < p → rd (mates s) j < p) (fun i => i.toNat) ?_ (p - 1) ⟨by omega, by omega, fun j h6 h7 => by omega⟩
      intro i ⟨h6, h7, h8⟩ ih
      refine W.step (fun k => spec_BracketAround.l0.eq_2 ..) (W.pos (by omega) (W.pos (by omega) ?_))
      refine W.ite (fun hc => ?_) (fun hc => W.ret (.inr ⟨depth_pos he, (show 0 ≤ i by omega), h7, (show rd (mates s) i ≥ p by omega), h8, rfl⟩))
      have hne : a ≠ i := fun e => by subst e; omega
      rw [w64 (x := i - 1) (by omega) (by omega)]
      exact ih (i - 1) ⟨by omega, by omega, fun j h9 h10 => by
        by_cases e : j = i
        · subst e; exact hc
        · exact h8 j (by omega) h10⟩ (by omega)
  · rw [if_neg hv]
    exact W.pos (by omega) (W.ret (.inr ⟨hv, rfl⟩))
end Go.Proofs.Ytbkdfiepdnbeoaa.Ev
