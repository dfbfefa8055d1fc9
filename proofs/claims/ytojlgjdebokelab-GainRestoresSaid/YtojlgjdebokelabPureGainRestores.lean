/- psalterylaw19.GainRestores answers true for every input: the lines that are restored of any steps, rests and noise, and the errors, are the reference's. No condition: every list of int, every gain, every rests, noise and number of lines. -/
import Derived.Test.YtojlgjdebokelabPGainRestoresx4
import Derived.Test.YtojlgjdebokelabHGain2
set_option linter.unusedVariables false
namespace Go.Proofs.Ytojlgjdebokelab.Pure
open Go.RowKit Go.Proofs.Ytojlgjdebokelab.PGainRestores Go.Proofs.YtojlgjdebokelabW.PrintWords Go.Proofs.YtojlgjdebokelabW.PrintLast
open Go.Proofs.YtojlgjdebokelabH

theorem alive_f : psalterylaw19_alive.f 10 = some true := by decide +kernel
theorem alive_any (k : Nat) (h : 10 ≤ k) : psalterylaw19_alive.f k = some true := by
  obtain ⟨j, rfl⟩ : ∃ j, k = 10 + j := ⟨k - 10, by omega⟩
  exact more_rounds (g := fun k => psalterylaw19_alive.f k) psalterylaw19_alive.mono 10 j _ alive_f
theorem step_ok (g : Int) (h0 : 0 ≤ g) (h1 : g ≤ 240) : psalteryref19_Step.f g = some (expv (32 * g)) := by
  have hb := step_bd (32 * g) (by omega) (by omega)
  have he : expf (32 * g) = (expv (32 * g), 0) := by
    unfold expf
    rw [if_neg (by omega)]
  unfold psalteryref19_Step.f psalteryref02_Exp.f
  rw [if_neg (by omega), if_neg (by omega), show g * 32 = 32 * g by omega, w64_in (32 * g) (by omega), w32_in _ (by omega), he]
  simp only [Option.bind_some]
  rw [w64_in _ (by omega)]
theorem step_none (g : Int) (h : g < 0 ∨ g > 240) : psalteryref19_Step.f g = some 0 := by
  unfold psalteryref19_Step.f
  by_cases c : g < 0
  · rw [if_pos c]
  · rw [if_neg c, if_pos (by omega)]
theorem drop_rd (q : List Int) (i : Nat) (hi : i < q.length) : q.drop i = rd q i :: q.drop (i + 1) := by
  rw [List.drop_eq_getElem_cons hi]
  congr 1
  unfold rd
  rw [List.getD_eq_getElem?_getD, Int.toNat_natCast, List.getElem?_eq_getElem hi]; rfl
theorem refmay_loop (q : List Int) (hl : q.length ≤ 120) (d : Nat) : ∀ (k i : Nat), i ≤ q.length → q.length - i = d → d < k →
    psalteryref19_May.l0 k q i = some (if Go.Proofs.YtojlgjdebokelabH.Fair (q.drop i) then 0 else 1) := by
  induction d with
  | zero =>
    intro k i h1 hd hk
    obtain ⟨k, rfl⟩ : ∃ m, k = m + 1 := ⟨k - 1, by omega⟩
    rw [List.drop_eq_nil_of_le (show q.length ≤ i by omega), if_pos (by intro x hx; simp at hx)]
    simp only [psalteryref19_May.l0]
    rw [if_neg (by omega)]
  | succ d ih =>
    intro k i h1 hd hk
    obtain ⟨k, rfl⟩ : ∃ m, k = m + 1 := ⟨k - 1, by omega⟩
    have hf : Go.Proofs.YtojlgjdebokelabH.Fair (q.drop i) ↔ (-32767 ≤ rd q i ∧ rd q i ≤ 32767) ∧ Go.Proofs.YtojlgjdebokelabH.Fair (q.drop (i + 1)) := by
      rw [drop_rd q i (by omega)]; unfold Go.Proofs.YtojlgjdebokelabH.Fair
      simp
    simp only [psalteryref19_May.l0]
    rw [if_pos (by omega), if_pos (by omega)]
    by_cases c1 : rd q i > 32767
    · rw [if_pos c1, if_neg (fun h => by have := (hf.1 h).1; omega)]
    · rw [if_neg c1]
      by_cases c2 : rd q i < -32767
      · rw [if_pos c2, if_neg (fun h => by have := (hf.1 h).1; omega)]
      · rw [if_neg c2, w64_in _ (by omega), show ((i : Int) + 1) = ((i + 1 : Nat) : Int) by omega, ih k (i + 1) (by omega) (by omega) (by omega)]
        by_cases c3 : Go.Proofs.YtojlgjdebokelabH.Fair (q.drop (i + 1))
        · rw [if_pos c3, if_pos (hf.2 ⟨by omega, c3⟩)]
        · rw [if_neg c3, if_neg (fun h => c3 (hf.1 h).2)]
theorem refmay_f (q : List Int) (g : Int) (k : Nat) (hk : 130 ≤ k) : psalteryref19_May.f k (q.length : Int) q g = some (mayv q g).2 := by
  obtain ⟨k, rfl⟩ : ∃ m, k = m + 2 := ⟨k - 2, by omega⟩
  unfold psalteryref19_May.f mayv
  by_cases h : (q.length : Int) > 120
  · rw [if_pos h, if_pos h]; rfl
  · rw [if_neg h, if_neg h, decide_eq_false h]
    simp only [psalteryref19_May.j0]
    rw [if_neg (by decide)]
    by_cases hg : g < 0 ∨ g > 240
    · rw [if_pos hg, step_none g hg]
      rfl
    · have hb := step_bd (32 * g) (by omega) (by omega)
      rw [if_neg hg, step_ok g (by omega) (by omega)]
      simp only [Option.bind_some]
      rw [if_neg (by omega), show ((q.length : Int) != (q.length : Int)) = false by simp]
      simp only [psalteryref19_May.j1]
      rw [if_neg (by decide)]
      have := refmay_loop q (by omega) q.length k 0 (by omega) (by omega) (by omega)
      rw [List.drop_zero] at this
      rw [show ((0 : Nat) : Int) = 0 from rfl] at this
      rw [this]
      by_cases hf : Go.Proofs.YtojlgjdebokelabH.Fair q
      · rw [if_pos hf, if_pos hf]
      · rw [if_neg hf, if_neg hf]
theorem nonzero_loop (q : List Int) (hl : q.length ≤ 120) (d : Nat) : ∀ (k i : Nat), i ≤ q.length → q.length - i = d → d < k →
    psalteryref19_Nonzero.l0 k q (nzc q i) i = some (nzc q q.length : Int) := by
  induction d with
  | zero =>
    intro k i h1 hd hk
    obtain ⟨k, rfl⟩ : ∃ m, k = m + 1 := ⟨k - 1, by omega⟩
    obtain rfl : i = q.length := by omega
    simp only [psalteryref19_Nonzero.l0]
    rw [if_neg (by omega)]
  | succ d ih =>
    intro k i h1 hd hk
    obtain ⟨k, rfl⟩ : ∃ m, k = m + 1 := ⟨k - 1, by omega⟩
    have hrec := ih k (i + 1) (by omega) (by omega) (by omega)
    have hn := nzc_le q i
    simp only [psalteryref19_Nonzero.l0]
    rw [if_pos (by omega), if_pos (by omega), w64_in ((i : Int) + 1) (by omega), w64_in ((nzc q i : Int) + 1) (by omega), show ((i : Int) + 1) = ((i + 1 : Nat) : Int) by omega]
    by_cases c1 : rd q i = 0
    · rw [if_pos c1]
      have : nzc q (i + 1) = nzc q i := by simp only [nzc]; rw [if_pos c1]
      rw [this] at hrec
      exact hrec
    · rw [if_neg c1]
      have : nzc q (i + 1) = nzc q i + 1 := by simp only [nzc]; rw [if_neg c1]
      rw [this] at hrec
      exact hrec
theorem abs_f (x : Int) (h : -32767 ≤ x ∧ x ≤ 32767) : psalteryref19_abs.f x = some (absv x) := by
  unfold psalteryref19_abs.f absv
  by_cases c : x < 0
  · rw [if_pos c, if_pos c, w64_in _ (by omega)]
  · rw [if_neg c, if_neg c]
def asum (q : List Int) : Nat → Int
  | 0 => 0
  | i + 1 => asum q i + absv (rd q i)
theorem asum_dsum (q : List Int) (i : Nat) : asum q i % 65536 = dsum q i := by
  induction i with
  | zero => rfl
  | succ i ih => simp only [asum, dsum]; rw [wrap_u16, ← ih]; omega
theorem asum_bd (q : List Int) (hf : Go.Proofs.YtojlgjdebokelabH.Fair q) (i : Nat) (hi : i ≤ q.length) : 0 ≤ asum q i ∧ asum q i ≤ 32767 * i := by
  induction i with
  | zero => simp [asum]
  | succ i ih =>
    have := ih (by omega)
    have hb := absv_bd (hf _ (rd_mem q i (by omega) (by omega)))
    simp only [asum]
    omega
theorem round_f (n s : Int) (h : -9223372036854775808 ≤ n ∧ n ≤ 9223372036854775807) : psalteryref01_Round.f n s = some (rnd n s) := by
  unfold psalteryref01_Round.f
  rw [if_pos h.1, if_pos h.2]
theorem sat_f (n : Int) : psalteryref01_Sat.f n 32 = some (c32 n) := rfl
theorem c32_wrap (n : Int) : wrap32 (c32 n) = c32 n := w32_in _ (clamp_in _ _ _ (by decide))
theorem lines_loop (q rests : List Int) (s noise lines D : Int) (hf : Go.Proofs.YtojlgjdebokelabH.Fair q) (hb : Bits rests) (hl : q.length ≤ 120) (hr : rests.length ≤ 300) (hs : 65536 ≤ s) (hs2 : s ≤ 140737488355328) (hn : 0 ≤ noise ∧ noise ≤ 7) (hD : 0 ≤ D ∧ D ≤ 65535) (d : Nat) : ∀ (k i : Nat), i ≤ q.length → q.length - i = d → 2 * d < k →
    psalteryref19_Restore.l2 k q rests noise lines (dcs q noise lines D i) s (tab i (rv q s rests noise lines D)) (min (nzc q i) rests.length : Nat) i = some (tab q.length (rv q s rests noise lines D), 0) := by
  induction d with
  | zero =>
    intro k i h1 hd hk
    obtain ⟨k, rfl⟩ : ∃ m, k = m + 1 := ⟨k - 1, by omega⟩
    obtain rfl : i = q.length := by omega
    simp only [psalteryref19_Restore.l2]
    rw [if_neg (by omega)]
  | succ d ih =>
    intro k i h1 hd hk
    obtain ⟨k, rfl⟩ : ∃ m, k = m + 2 := ⟨k - 2, by omega⟩
    have hrec := ih k (i + 1) (by omega) (by omega) (by omega)
    have hqb := hf _ (rd_mem q i (by omega) (by omega))
    have hab := absv_bd hqb
    rw [tab_succ] at hrec
    simp only [psalteryref19_Restore.l2]
    rw [if_pos (by omega), if_pos (by omega)]
    by_cases hz : rd q i = 0
    · have hnz : nzc q (i + 1) = nzc q i := by simp only [nzc]; rw [if_pos hz]
      rw [if_pos hz]
      rw [hnz] at hrec
      by_cases hno : noise > 0 ∧ (i : Int) < lines
      · have hdc : dcs q noise lines D (i + 1) = nextd (dcs q noise lines D i) := by simp only [dcs]; rw [if_pos ⟨hz, hno⟩]
        have hdb := dcs_bd q noise lines D hD i
        have hp : 0 ≤ noise * s ∧ noise * s ≤ 985162418487296 := ⟨Int.mul_nonneg (by omega) (by omega), by
          have : noise * s ≤ 7 * 140737488355328 := Int.mul_le_mul hn.2 hs2 (by omega) (by omega)
          omega⟩
        have hrr := rnd_range (noise * s / 16) 16 (by omega) (by omega)
        have hnx : Int.tmod (wrap64 ((wrap64 (dcs q noise lines D i * 13849)) + 16831)) 65536 = nextd (dcs q noise lines D i) := by
          rw [w64_in (dcs q noise lines D i * 13849) (by omega), w64_in _ (by omega), Int.tmod_eq_emod_of_nonneg (by omega), nextd_eq]
        rw [rv_noise q s rests noise lines D i hz hno, hdc] at hrec
        rw [if_pos hno.1, decide_eq_true hno.2]
        simp only [psalteryref19_Restore.j4]
        rw [if_pos trivial, w64_in (noise * s) (by omega), Int.tdiv_eq_ediv_of_nonneg hp.1, w64_in (noise * s / 16) (by omega), round_f _ _ (by omega), hnx]
        simp only [Option.bind_some]
        by_cases hh : nextd (dcs q noise lines D i) ≥ 32768
        · rw [if_pos hh, w64_in _ (by omega), sat_f]
          simp only [Option.bind_some]
          rw [if_pos (by rw [tab_length]; omega), c32_wrap, w64_in _ (by omega)]
          rw [if_pos hh] at hrec
          exact hrec
        · rw [if_neg hh, sat_f]
          simp only [Option.bind_some]
          rw [if_pos (by rw [tab_length]; omega), c32_wrap, w64_in _ (by omega)]
          rw [if_neg hh] at hrec
          exact hrec
      · have hdc : dcs q noise lines D (i + 1) = dcs q noise lines D i := by simp only [dcs]; rw [if_neg (fun h => hno h.2)]
        rw [rv_none q s rests noise lines D i hz hno, hdc] at hrec
        have key : psalteryref19_Restore.j4 (k + 1) q rests noise lines (dcs q noise lines D i) s (tab i (rv q s rests noise lines D)) (min (nzc q i) rests.length : Nat) i 0 false = some (tab q.length (rv q s rests noise lines D), 0) := by
          simp only [psalteryref19_Restore.j4]
          rw [if_neg (by decide), sat_f]
          simp only [Option.bind_some]
          rw [if_pos (by rw [tab_length]; omega), c32_wrap, w64_in _ (by omega)]
          exact hrec
        by_cases hn0 : noise > 0
        · rw [if_pos hn0, decide_eq_false (fun h => hno ⟨hn0, h⟩)]; exact key
        · rw [if_neg hn0]; exact key
    · have hnz : nzc q (i + 1) = nzc q i + 1 := by simp only [nzc]; rw [if_neg hz]
      have hab1 : 1 ≤ absv (rd q i) := by unfold absv; split <;> omega
      have ht := times_bd hab1 hab.2 hs hs2
      have hdc : dcs q noise lines D (i + 1) = dcs q noise lines D i := by simp only [dcs]; rw [if_neg (fun h => hz h.1)]
      have hnl := nzc_le q i
      rw [hdc] at hrec
      rw [if_neg hz, abs_f _ hqb]
      simp only [Option.bind_some]
      rw [w64_in (absv (rd q i) * s) (by omega), Int.tdiv_eq_ediv_of_nonneg (show 0 ≤ s by omega), w64_in (s / 4) (by omega)]
      have fin : ∀ (a : Int) (u : Int), 0 ≤ a → a ≤ 4611580465311387648 → rv q s rests noise lines D i = c32 (sgn (rnd a 16) (rd q i)) → u = (min (nzc q (i + 1)) rests.length : Nat) →
          psalteryref19_Restore.j5 (k + 1) q rests noise lines (dcs q noise lines D i) s (tab i (rv q s rests noise lines D)) u i a = some (tab q.length (rv q s rests noise lines D), 0) := by
        intro a u ha ha2 hv hu
        have hrr := rnd_range a 16 ha (by omega)
        subst hu
        rw [hv] at hrec
        unfold sgn at hrec
        simp only [psalteryref19_Restore.j5]
        rw [round_f _ _ (by omega)]
        simp only [Option.bind_some]
        rw [if_pos (by omega), if_pos (by omega)]
        by_cases c : rd q i < 0
        · rw [if_pos c, w64_in _ (by omega), sat_f]
          simp only [Option.bind_some]
          rw [if_pos (by rw [tab_length]; omega), c32_wrap, w64_in _ (by omega)]
          rw [if_pos c] at hrec
          exact hrec
        · rw [if_neg c, sat_f]
          simp only [Option.bind_some]
          rw [if_pos (by rw [tab_length]; omega), c32_wrap, w64_in _ (by omega)]
          rw [if_neg c] at hrec
          exact hrec
      by_cases hu : nzc q i < rests.length
      · have hmin : (min (nzc q i) rests.length : Nat) = nzc q i := by omega
        have hbit := hb _ (rd_mem rests (nzc q i) (by omega) (by omega))
        have hv := rv_rest q s rests noise lines D i hz hu
        rw [hmin, if_pos (by omega), if_pos (by omega), w64_in ((nzc q i : Int) + 1) (by omega)]
        by_cases c : rd rests (nzc q i) = 1
        · rw [c, show (2 * (1 : Int) - 1) = 1 by decide, Int.one_mul] at hv
          rw [if_pos c, w64_in _ (by omega)]
          exact fin _ _ (by omega) (by omega) hv (by omega)
        · have c0 : rd rests (nzc q i) = 0 := by omega
          rw [c0, show (2 * (0 : Int) - 1) = -1 by decide, Int.neg_one_mul] at hv
          rw [if_neg c, w64_in _ (by omega)]
          exact fin _ _ (by omega) (by omega) hv (by omega)
      · have hmin : (min (nzc q i) rests.length : Nat) = rests.length := by omega
        have hv := rv_plain q s rests noise lines D i hz hu
        rw [hmin, if_neg (by omega)]
        exact fin _ _ (by omega) (by omega) hv (by omega)
theorem sum_loop (q rests : List Int) (g noise lines : Int) (hf : Go.Proofs.YtojlgjdebokelabH.Fair q) (hb : Bits rests) (hl : q.length ≤ 120) (hr : rests.length ≤ 300) (hg : 0 ≤ g ∧ g ≤ 240) (hn : 0 ≤ noise ∧ noise ≤ 7) (d : Nat) : ∀ (k i : Nat), i ≤ q.length → q.length - i = d → d + 300 < k →
    psalteryref19_Restore.l1 k q g rests noise lines (asum q i) i = some (tab q.length (rv q (expv (32 * g)) rests noise lines (dsum q q.length)), 0) := by
  have hsb := step_bd (32 * g) (by omega) (by omega)
  induction d with
  | zero =>
    intro k i h1 hd hk
    obtain ⟨k, rfl⟩ : ∃ m, k = m + 1 := ⟨k - 1, by omega⟩
    obtain rfl : i = q.length := by omega
    have ha := asum_bd q hf q.length (by omega)
    simp only [psalteryref19_Restore.l1]
    rw [if_neg (by omega), step_ok g hg.1 hg.2]
    simp only [Option.bind_some]
    rw [Int.tmod_eq_emod_of_nonneg ha.1, asum_dsum]
    have := lines_loop q rests (expv (32 * g)) noise lines (dsum q q.length) hf hb hl hr hsb.1 hsb.2 hn (dsum_bd q _) q.length k 0 (by omega) (by omega) (by omega)
    simpa [dcs, nzc, tab_zero] using this
  | succ d ih =>
    intro k i h1 hd hk
    obtain ⟨k, rfl⟩ : ∃ m, k = m + 1 := ⟨k - 1, by omega⟩
    have ha := asum_bd q hf i (by omega)
    have hqb := hf _ (rd_mem q i (by omega) (by omega))
    have hab := absv_bd hqb
    have hrec := ih k (i + 1) (by omega) (by omega) (by omega)
    simp only [psalteryref19_Restore.l1]
    rw [if_pos (by omega), if_pos (by omega), abs_f _ hqb]
    simp only [Option.bind_some]
    rw [w64_in (asum q i + absv (rd q i)) (by omega), w64_in _ (by omega)]
    exact hrec
theorem bits_loop (q rests : List Int) (g noise lines : Int) (hf : Go.Proofs.YtojlgjdebokelabH.Fair q) (hl : q.length ≤ 120) (hr : rests.length ≤ 300) (hg : 0 ≤ g ∧ g ≤ 240) (hn : 0 ≤ noise ∧ noise ≤ 7) (hpre : ∀ i : Nat, i < rests.length → ∀ j : Nat, j < i → True) (d : Nat) : ∀ (k i : Nat), i ≤ rests.length → rests.length - i = d → d + 500 < k → (∀ j : Nat, j < i → rd rests j = 0 ∨ rd rests j = 1) →
    psalteryref19_Restore.l0 k q g rests noise lines 0 i = some (if Bits (rests.drop i) then (tab q.length (rv q (expv (32 * g)) rests noise lines (dsum q q.length)), 0) else ([], 1)) := by
  induction d with
  | zero =>
    intro k i h1 hd hk hj
    obtain ⟨k, rfl⟩ : ∃ m, k = m + 1 := ⟨k - 1, by omega⟩
    obtain rfl : i = rests.length := by omega
    have hb : Bits rests := by
      intro b hb
      obtain ⟨j, hj1, rfl⟩ := List.getElem_of_mem hb
      have := hj j hj1
      unfold rd at this
      rw [List.getD_eq_getElem?_getD, Int.toNat_natCast, List.getElem?_eq_getElem hj1] at this
      exact this
    rw [List.drop_eq_nil_of_le (Nat.le_refl _), if_pos (by intro x hx; simp at hx)]
    simp only [psalteryref19_Restore.l0]
    rw [if_neg (by omega)]
    exact sum_loop q rests g noise lines hf hb hl hr hg hn q.length k 0 (by omega) (by omega) (by omega)
  | succ d ih =>
    intro k i h1 hd hk hj
    obtain ⟨k, rfl⟩ : ∃ m, k = m + 1 := ⟨k - 1, by omega⟩
    have hfb : Bits (rests.drop i) ↔ (rd rests i = 0 ∨ rd rests i = 1) ∧ Bits (rests.drop (i + 1)) := by
      rw [drop_rd rests i (by omega)]; unfold Bits
      simp
    simp only [psalteryref19_Restore.l0]
    rw [if_pos (by omega), if_pos (by omega), w64_in ((i : Int) + 1) (by omega), show ((i : Int) + 1) = ((i + 1 : Nat) : Int) by omega]
    have next : rd rests i = 0 ∨ rd rests i = 1 → psalteryref19_Restore.l0 k q g rests noise lines 0 (i + 1 : Nat) = some (if Bits (rests.drop i) then (tab q.length (rv q (expv (32 * g)) rests noise lines (dsum q q.length)), 0) else ([], 1)) := by
      intro hb
      rw [ih k (i + 1) (by omega) (by omega) (by omega) (fun j hji => by
        by_cases c : j = i
        · subst c; exact hb
        · exact hj j (by omega))]
      by_cases c3 : Bits (rests.drop (i + 1))
      · rw [if_pos c3, if_pos (hfb.2 ⟨hb, c3⟩)]
      · rw [if_neg c3, if_neg (fun h => c3 (hfb.1 h).2)]
    by_cases c1 : rd rests i = 0
    · rw [if_pos c1]; exact next (.inl c1)
    · rw [if_neg c1]
      by_cases c2 : rd rests i = 1
      · rw [if_pos c2]; exact next (.inr c2)
      · rw [if_neg c2, if_neg (fun h => by have := (hfb.1 h).1; omega)]
theorem refrestore_f (q rests : List Int) (g noise lines : Int) (hq : q.length ≤ 300) (hr : rests.length ≤ 300) : psalteryref19_Restore.f 1000 q g rests noise lines = some (restv q g rests noise lines) := by
  unfold psalteryref19_Restore.f restv
  rw [refmay_f q g 1000 (by omega)]
  unfold mayv
  by_cases h : (q.length : Int) > 120
  · rw [if_pos h, if_pos h]; rfl
  · rw [if_neg h, if_neg h]
    by_cases hg : g < 0 ∨ g > 240
    · rw [if_pos hg, if_pos hg]; rfl
    · rw [if_neg hg, if_neg hg]
      by_cases hf : Go.Proofs.YtojlgjdebokelabH.Fair q
      · rw [if_pos hf, if_pos hf]
        simp only [Option.bind_some]
        rw [if_pos trivial]
        have hnz : psalteryref19_Nonzero.f 1000 q = some (nzc q q.length : Int) := nonzero_loop q (by omega) q.length 1000 0 (by omega) (by omega) (by omega)
        rw [hnz]
        simp only [Option.bind_some]
        have bad : ∀ b : Bool, (decide (Bits rests) && lastOk q rests noise lines (nzc q q.length)) = false → b = true → psalteryref19_Restore.j0 1000 q g rests noise lines b = some (if (decide (Bits rests) && lastOk q rests noise lines (nzc q q.length)) = true then (tab q.length (rv q (expv (32 * g)) rests noise lines (dsum q q.length)), 0) else ([], 1)) := by
          intro b h1 h2
          rw [h1, h2]; rfl
        have lastf : ∀ P : Prop, (P → ¬ ((rests.length : Int) ≤ (nzc q q.length : Int) ∧ noise ≥ 0 ∧ noise ≤ 7 ∧ lines ≥ 0 ∧ lines ≤ (q.length : Int))) → P → (decide (Bits rests) && lastOk q rests noise lines (nzc q q.length)) = false := by
          intro P h1 h2
          unfold lastOk
          rw [decide_eq_false (h1 h2), Bool.and_false]
        by_cases c1 : (rests.length : Int) > (nzc q q.length : Int)
        · rw [if_pos c1]; exact bad true (lastf _ (fun h => by omega) c1) rfl
        · rw [if_neg c1]
          by_cases c2 : noise < 0
          · rw [if_pos c2]; exact bad true (lastf _ (fun h => by omega) c2) rfl
          · rw [if_neg c2]
            by_cases c3 : noise > 7
            · rw [if_pos c3]; exact bad true (lastf _ (fun h => by omega) c3) rfl
            · rw [if_neg c3]
              by_cases c4 : lines < 0
              · rw [if_pos c4]; exact bad true (lastf _ (fun h => by omega) c4) rfl
              · rw [if_neg c4]
                by_cases c5 : lines > (q.length : Int)
                · rw [decide_eq_true c5]; exact bad true (lastf _ (fun h => by omega) c5) rfl
                · rw [decide_eq_false c5]
                  have hlast : lastOk q rests noise lines (nzc q q.length) = true := by
                    unfold lastOk; exact decide_eq_true ⟨by omega, by omega, by omega, by omega, by omega⟩
                  simp only [psalteryref19_Restore.j0]
                  rw [if_neg (by decide), hlast, Bool.and_true]
                  have := bits_loop q rests g noise lines hf (by omega) hr (by omega) (by omega) (fun _ _ _ _ => trivial) rests.length 999 0 (by omega) (by omega) (by omega) (fun j hj => by omega)
                  rw [List.drop_zero] at this
                  rw [show ((0 : Nat) : Int) = 0 from rfl] at this
                  rw [this]
                  by_cases hb : Bits rests
                  · rw [if_pos hb, if_pos (decide_eq_true hb)]
                  · rw [if_neg hb, if_neg (by rw [decide_eq_false hb]; decide)]
      · rw [if_neg hf, if_neg hf]; rfl
theorem same (a : List Int) (ha : a.length ≤ 10000) (d : Nat) : ∀ (k i : Nat), i ≤ a.length → a.length - i = d → d < k → psalteryref08_Same32.l0 k a a i = some true := by
  induction d with
  | zero =>
    intro k i h1 hd hk
    obtain ⟨k, rfl⟩ : ∃ m, k = m + 1 := ⟨k - 1, by omega⟩
    simp only [psalteryref08_Same32.l0]
    rw [if_neg (by omega)]
  | succ d ih =>
    intro k i h1 hd hk
    obtain ⟨k, rfl⟩ : ∃ m, k = m + 1 := ⟨k - 1, by omega⟩
    simp only [psalteryref08_Same32.l0]
    rw [if_pos (by omega), if_pos (by omega), if_pos (by omega), if_pos trivial, w64_in _ (by omega)]
    exact ih k (i + 1) (by omega) (by omega) (by omega)
theorem same_f (a : List Int) (ha : a.length ≤ 10000) (k : Nat) (h : a.length < k) : psalteryref08_Same32.f k a a = some true := by
  unfold psalteryref08_Same32.f
  rw [if_pos rfl]
  exact same a ha a.length k 0 (by omega) (by omega) h
theorem restv_length (q rests : List Int) (g noise lines : Int) : (restv q g rests noise lines).1.length ≤ q.length := by
  unfold restv
  repeat' split
  all_goals first | (simp; done) | (rw [tab_length]; exact Nat.le_refl _)

theorem GainRestores : psalterylaw19_GainRestores.Pure := by
  intro q g rests noise lines _ _ _ _ _ _ _ _ _
  refine ⟨1001, ?_⟩
  unfold psalterylaw19_GainRestores.f
  rw [alive_any 1001 (by omega), Option.bind_some, if_pos rfl]
  unfold psalterylaw19_far.f
  rw [if_neg (by decide), Option.bind_some]
  by_cases h1 : (q.length : Int) > 300
  · rw [decide_eq_true h1]; rfl
  · rw [decide_eq_false h1, if_neg (by decide)]
    by_cases h2 : (rests.length : Int) > 300
    · rw [decide_eq_true h2]; rfl
    · rw [decide_eq_false h2]
      simp only [psalterylaw19_GainRestores.j0]
      have hl := restv_length q rests g noise lines
      rw [if_neg (by decide), refrestore_f q rests g noise lines (by omega) (by omega)]
      unfold gain_Restore.f
      rw [if_pos (by omega)]
      simp only [Option.bind_some]
      rw [if_pos trivial, same_f _ (by omega) 1000 (by omega)]
      rfl

end Go.Proofs.Ytojlgjdebokelab.Pure
