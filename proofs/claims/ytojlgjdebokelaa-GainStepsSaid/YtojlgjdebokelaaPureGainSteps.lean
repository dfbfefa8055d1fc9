/- psalterylaw19.GainSteps answers true for every input: the step of any gain, and any lines in its steps, are the reference's, and so are the errors. No condition: every list of int32, every int. -/
import Derived.Test.YtojlgjdebokelaaPGainStepsx2
import Derived.Test.YtojlgjdebokelaaHList
namespace Go.Proofs.Ytojlgjdebokelaa.Pure
open Go.RowKit Go.Proofs.Ytojlgjdebokelaa.PGainSteps Go.Proofs.YtojlgjdebokelaaW.PrintWords Go.Proofs.YtojlgjdebokelaaW.PrintLast
open Go.Proofs.YtojlgjdebokelaaH

theorem alive_f : psalterylaw19_alive.f 10 = some true := by decide +kernel
theorem pow_down (n : Nat) (h : n ≤ 13) : (1 : Int) ≤ 2 ^ n ∧ (2 : Int) ^ n ≤ 8192 := by
  have : ∀ n : Fin 14, (1 : Int) ≤ 2 ^ n.val ∧ (2 : Int) ^ n.val ≤ 8192 := by decide +kernel
  exact this ⟨n, by omega⟩
theorem step_bd (q : Int) (h0 : 0 ≤ q) (h1 : q ≤ 7680) : 65536 ≤ expv q ∧ expv q ≤ 140737488355328 := by
  unfold expv
  have hm := mant8_bd q
  by_cases c : 14 ≤ q / 256
  · rw [if_pos c]
    have hp := pow_up (q / 256 - 14).toNat (by omega)
    have h1 : mant q 8 * 2 ^ (q / 256 - 14).toNat ≤ 2147483647 * 65536 := Int.mul_le_mul hm.2 hp.2 (by omega) (by omega)
    have h2 : mant q 8 * 1 ≤ mant q 8 * 2 ^ (q / 256 - 14).toNat := Int.mul_le_mul_of_nonneg_left hp.1 (by omega)
    omega
  · rw [if_neg c]
    have hr := rnd_range (mant q 8) (-(q / 256 - 14)) (by omega) (by omega)
    refine ⟨?_, by omega⟩
    unfold rnd
    rw [if_neg (by omega), if_neg (by omega)]
    have hp := pow_down ((-(q / 256 - 14)).toNat - 1) (by omega)
    have : 131072 ≤ mant q 8 / 2 ^ ((-(q / 256 - 14)).toNat - 1) := by
      rw [Int.le_ediv_iff_mul_le (by omega)]
      have : 131072 * 2 ^ ((-(q / 256 - 14)).toNat - 1) ≤ 131072 * (8192 : Int) := Int.mul_le_mul_of_nonneg_left hp.2 (by omega)
      omega
    omega
/-- A line in steps. -/
def gq (s x : Int) : Int := if x < 0 then -(if ((if x < 0 then -x else x) * 65536 + 3 * s / 8) / s > 32767 then 32767 else ((if x < 0 then -x else x) * 65536 + 3 * s / 8) / s) else (if ((if x < 0 then -x else x) * 65536 + 3 * s / 8) / s > 32767 then 32767 else ((if x < 0 then -x else x) * 65536 + 3 * s / 8) / s)
theorem step_f (g : Int) (h0 : 0 ≤ g) (h1 : g ≤ 240) : gain_Step.f g = some (expv (32 * g), 0) ∧ psalteryref19_Step.f g = some (expv (32 * g)) := by
  have hb := step_bd (32 * g) (by omega) (by omega)
  have he : expf (32 * g) = (expv (32 * g), 0) := by
    unfold expf
    rw [if_neg (by omega)]
  constructor
  · unfold gain_Step.f logs_Exp.f
    rw [if_neg (by omega), if_neg (by omega), w64_in (32 * g) (by omega), w32_in _ (by omega), he]; rfl
  · unfold psalteryref19_Step.f psalteryref02_Exp.f
    rw [if_neg (by omega), if_neg (by omega), show g * 32 = 32 * g by omega, w64_in (32 * g) (by omega), w32_in _ (by omega), he]
    simp only [Option.bind_some]
    rw [w64_in _ (by omega)]
theorem line_q (s x : Int) (hs : 65536 ≤ s) (hs2 : s ≤ 140737488355328) (hx : -2147483648 ≤ x ∧ x ≤ 2147483647) :
    (gain_size_int32.f x).bind (fun t109 => (if s = 0 then (none) else ((gain_signed_int32.f (mn (wrap64 (Int.tdiv (wrap64 ((wrap64 (t109 * 65536)) + (wrap64 (Int.tdiv (wrap64 (3 * s)) 8)))) s)) 32767) x)))) = some (gq s x) := by
  unfold gain_size_int32.f gain_signed_int32.f gq
  have hm : mx (wrap64 x) (wrap64 (-(wrap64 x))) = if x < 0 then -x else x := by
    rw [w64_in x (by omega), w64_in (-x) (by omega)]
    unfold mx
    split <;> split <;> omega
  rw [Option.bind_some, hm, if_neg (by omega)]
  have ha : 0 ≤ (if x < 0 then -x else x) ∧ (if x < 0 then -x else x) ≤ 2147483648 := by split <;> omega
  generalize (if x < 0 then -x else x) = a at *
  rw [w64_in (3 * s) (by omega), show Int.tdiv (3 * s) 8 = 3 * s / 8 from Int.tdiv_eq_ediv_of_nonneg (by omega), w64_in (3 * s / 8) (by omega), w64_in (a * 65536) (by omega), w64_in (a * 65536 + 3 * s / 8) (by omega), Int.tdiv_eq_ediv_of_nonneg (by omega)]
  have h1 : 0 ≤ (a * 65536 + 3 * s / 8) / s := Int.ediv_nonneg (by omega) (by omega)
  have h2 : (a * 65536 + 3 * s / 8) / s ≤ a * 65536 + 3 * s / 8 := Int.ediv_le_self _ (by omega)
  generalize (a * 65536 + 3 * s / 8) / s = n at *
  rw [w64_in n (by omega)]
  have hn : mn n 32767 = if n > 32767 then 32767 else n := by unfold mn; split <;> first | rfl | omega | (split <;> omega)
  rw [hn]
  have hb : 0 ≤ (if n > 32767 then 32767 else n) ∧ (if n > 32767 then 32767 else n) ≤ 32767 := by split <;> omega
  generalize (if n > 32767 then 32767 else n) = m at *
  by_cases c : x < 0
  · rw [if_pos c, if_pos c, w64_in _ (by omega)]
  · rw [if_neg c, if_neg c]
theorem fills (l : List Int) (s : Int) (hs : 65536 ≤ s) (hs2 : s ≤ 140737488355328) (hl : ∀ x ∈ l, (Lit.int .i32 x).wf = true) (hm : l.length ≤ 300) (d : Nat) : ∀ (k i : Nat), i ≤ l.length → l.length - i = d → d < k →
    gain_Quantise.l0 k s (mix i l.length fun j => gq s (rd l j)) l (l.length : Int) i = some (tab l.length (fun j => gq s (rd l j)), 0) := by
  induction d with
  | zero =>
    intro k i h1 hd hk
    obtain ⟨k, rfl⟩ : ∃ m, k = m + 1 := ⟨k - 1, by omega⟩
    obtain rfl : i = l.length := by omega
    simp only [gain_Quantise.l0]
    rw [if_neg (by omega), mix_full]
  | succ d ih =>
    intro k i h1 hd hk
    obtain ⟨k, rfl⟩ : ∃ m, k = m + 1 := ⟨k - 1, by omega⟩
    have hx := wf_i32 (hl _ (rd_mem l i (by omega) (by omega)))
    have hq := line_q s (rd l i) hs hs2 hx
    simp only [gain_Quantise.l0]
    rw [if_pos (by omega), if_pos (by omega), if_pos (by omega)]
    obtain ⟨a, ha, hq⟩ := Option.bind_eq_some_iff.mp hq
    rw [if_neg (by omega)] at hq
    rw [ha, Option.bind_some, if_neg (by omega), hq, Option.bind_some, if_pos (by rw [mix_length _ _ _ h1]; omega), Int.toNat_natCast, mix_set i l.length _ (by omega) _ rfl, w64_in _ (by omega)]
    exact ih k (i + 1) (by omega) (by omega) (by omega)
theorem refline (s x : Int) (hs : 65536 ≤ s) (hs2 : s ≤ 140737488355328) (hx : -2147483648 ≤ x ∧ x ≤ 2147483647) (K : Int → Option (List Int)) :
    ((psalteryref19_abs.f (wrap64 x)).bind fun t130 => (if s = 0 then (none) else (if (wrap64 (Int.tdiv (wrap64 ((wrap64 (t130 * 65536)) + (wrap64 (Int.tdiv (wrap64 (s * 3)) 8)))) s)) > 32767 then (if x < 0 then K (-32767) else K 32767) else (if x < 0 then K (wrap64 (-(wrap64 (Int.tdiv (wrap64 ((wrap64 (t130 * 65536)) + (wrap64 (Int.tdiv (wrap64 (s * 3)) 8)))) s)))) else K (wrap64 (Int.tdiv (wrap64 ((wrap64 (t130 * 65536)) + (wrap64 (Int.tdiv (wrap64 (s * 3)) 8)))) s)))))) = K (gq s x) := by
  unfold psalteryref19_abs.f gq
  have hm : (if wrap64 x < 0 then some (wrap64 (-wrap64 x)) else some (wrap64 x)) = some (if x < 0 then -x else x) := by
    rw [w64_in x (by omega), w64_in (-x) (by omega)]
    split <;> rfl
  rw [hm, Option.bind_some, if_neg (by omega)]
  have ha : 0 ≤ (if x < 0 then -x else x) ∧ (if x < 0 then -x else x) ≤ 2147483648 := by split <;> omega
  generalize (if x < 0 then -x else x) = a at *
  rw [show s * 3 = 3 * s by omega, w64_in (3 * s) (by omega), show Int.tdiv (3 * s) 8 = 3 * s / 8 from Int.tdiv_eq_ediv_of_nonneg (by omega), w64_in (3 * s / 8) (by omega), w64_in (a * 65536) (by omega), w64_in (a * 65536 + 3 * s / 8) (by omega), Int.tdiv_eq_ediv_of_nonneg (by omega)]
  have h1 : 0 ≤ (a * 65536 + 3 * s / 8) / s := Int.ediv_nonneg (by omega) (by omega)
  have h2 : (a * 65536 + 3 * s / 8) / s ≤ a * 65536 + 3 * s / 8 := Int.ediv_le_self _ (by omega)
  generalize (a * 65536 + 3 * s / 8) / s = n at *
  rw [w64_in n (by omega), w64_in (-n) (by omega)]
  by_cases c : n > 32767
  · rw [if_pos c, if_pos c]
    split <;> rfl
  · rw [if_neg c, if_neg c]
    split <;> rfl
theorem appends (l : List Int) (s : Int) (hs : 65536 ≤ s) (hs2 : s ≤ 140737488355328) (hl : ∀ x ∈ l, (Lit.int .i32 x).wf = true) (hm : l.length ≤ 300) (d : Nat) : ∀ (k i : Nat), i ≤ l.length → l.length - i = d → d < k →
    psalteryref19_Quantise.l0 k l s (tab i fun j => gq s (rd l j)) i = some (tab l.length (fun j => gq s (rd l j))) := by
  induction d with
  | zero =>
    intro k i h1 hd hk
    obtain ⟨k, rfl⟩ : ∃ m, k = m + 1 := ⟨k - 1, by omega⟩
    obtain rfl : i = l.length := by omega
    simp only [psalteryref19_Quantise.l0]
    rw [if_neg (by omega)]
  | succ d ih =>
    intro k i h1 hd hk
    obtain ⟨k, rfl⟩ : ∃ m, k = m + 1 := ⟨k - 1, by omega⟩
    have hx := wf_i32 (hl _ (rd_mem l i (by omega) (by omega)))
    have hq := refline s (rd l i) hs hs2 hx (fun v => if (tab i fun j => gq s (rd l j)).length < 17592186044416 then psalteryref19_Quantise.l0 k l s ((tab i fun j => gq s (rd l j)) ++ [v]) (wrap64 (i + 1)) else none)
    simp only [psalteryref19_Quantise.l0]
    rw [if_pos (by omega), if_pos (by omega), hq, if_pos (by rw [tab_length]; omega), ← tab_succ i (fun j => gq s (rd l j)), w64_in _ (by omega)]
    exact ih k (i + 1) (by omega) (by omega) (by omega)
theorem same (a : List Int) (ha : a.length ≤ 1000) (d : Nat) : ∀ (k i : Nat), i ≤ a.length → a.length - i = d → d < k → psalteryref19_Same.l0 k a a i = some true := by
  induction d with
  | zero =>
    intro k i h1 hd hk
    obtain ⟨k, rfl⟩ : ∃ m, k = m + 1 := ⟨k - 1, by omega⟩
    simp only [psalteryref19_Same.l0]
    rw [if_neg (by omega)]
  | succ d ih =>
    intro k i h1 hd hk
    obtain ⟨k, rfl⟩ : ∃ m, k = m + 1 := ⟨k - 1, by omega⟩
    simp only [psalteryref19_Same.l0]
    rw [if_pos (by omega), if_pos (by omega), if_pos (by omega), if_pos trivial, w64_in _ (by omega)]
    exact ih k (i + 1) (by omega) (by omega) (by omega)
theorem alive_any (k : Nat) (h : 10 ≤ k) : psalterylaw19_alive.f k = some true := by
  obtain ⟨j, rfl⟩ : ∃ j, k = 10 + j := ⟨k - 10, by omega⟩
  exact more_rounds (g := fun k => psalterylaw19_alive.f k) psalterylaw19_alive.mono 10 j _ alive_f

theorem GainSteps : psalterylaw19_GainSteps.Pure := by
  intro l g _ _ hl hg
  have hg := wf_i64 hg
  refine ⟨400, ?_⟩
  unfold psalterylaw19_GainSteps.f
  rw [alive_any 400 (by omega)]
  simp only [Option.bind_some, if_true, psalterylaw19_far.f]
  by_cases h3 : (l.length : Int) > 300
  · rw [if_pos h3]; rfl
  · rw [if_neg h3]
    have hd : (decide ((([] : List Int).length : Int) > 300)) = false := by decide
    rw [hd]
    simp only [Option.bind_some, Bool.false_eq_true, if_false]
    by_cases hr : 0 ≤ g ∧ g ≤ 240
    · obtain ⟨e1, e2⟩ := step_f g hr.1 hr.2
      have hb := step_bd (32 * g) (by omega) (by omega)
      rw [e1, e2]
      simp only [Option.bind_some]
      unfold gain_Quantise.f
      rw [e1]
      simp only [Option.bind_some, if_true]
      rw [w64_in (expv (32 * g)) (by omega)]
      have hpos : decide (expv (32 * g) > 0) = true := decide_eq_true (by omega)
      by_cases h1 : (l.length : Int) > 120
      · rw [if_pos h1]
        simp only [Option.bind_some, if_true, hpos]
        rw [if_neg (by decide), if_neg (by omega)]
        simp only [psalterylaw19_GainSteps.j0]
        rw [if_neg (by decide), if_pos h1]
        rfl
      · have hf := fills l (expv (32 * g)) hb.1 hb.2 hl (by omega) l.length 400 0 (by omega) (by omega) (by omega)
        rw [mix_zero] at hf
        rw [if_neg h1, if_pos (by omega), if_pos (by omega), show (List.replicate ((l.length : Int)).toNat (0 : Int)) = List.replicate l.length 0 by rw [Int.toNat_natCast]]
        rw [show ((0 : Nat) : Int) = 0 from rfl] at hf
        rw [hf]
        simp only [Option.bind_some, if_true, hpos]
        rw [if_neg (by decide), if_neg (by omega)]
        simp only [psalterylaw19_GainSteps.j0]
        rw [if_neg (by decide), if_neg h1, if_neg (by omega), if_pos trivial]
        unfold psalteryref19_Quantise.f
        have ha := appends l (expv (32 * g)) hb.1 hb.2 hl (by omega) l.length 399 0 (by omega) (by omega) (by omega)
        rw [tab_zero, show ((0 : Nat) : Int) = 0 from rfl] at ha
        rw [e2, Option.bind_some, ha, Option.bind_some]
        unfold psalteryref19_Same.f
        have hs := same (tab l.length fun j => gq (expv (32 * g)) (rd l j)) (by rw [tab_length]; omega) l.length 399 0 (by omega) (by rw [tab_length]; omega) (by omega)
        rw [show ((0 : Nat) : Int) = 0 from rfl] at hs
        rw [if_pos rfl, hs]
        rfl
    · have e1 : gain_Step.f g = some (0, 1) := by
        unfold gain_Step.f
        by_cases c : g < 0
        · rw [if_pos c]
        · rw [if_neg c, if_pos (by omega)]
      have e2 : psalteryref19_Step.f g = some 0 := by
        unfold psalteryref19_Step.f
        by_cases c : g < 0
        · rw [if_pos c]
        · rw [if_neg c, if_pos (by omega)]
      rw [e1, e2]
      unfold gain_Quantise.f
      rw [e1]
      simp only [Option.bind_some]
      rw [w64_in 0 (by omega)]
      by_cases h1 : (l.length : Int) > 120
      · rw [if_pos h1]
        simp only [Option.bind_some]
        rw [if_pos trivial, if_neg (by decide), if_pos trivial]
        simp only [psalterylaw19_GainSteps.j0]
        rw [if_neg (by decide), if_pos h1]
        rfl
      · rw [if_neg h1, if_neg (by decide)]
        simp only [Option.bind_some]
        rw [if_pos trivial, if_neg (by decide), if_pos trivial]
        simp only [psalterylaw19_GainSteps.j0]
        rw [if_neg (by decide), if_neg h1, if_pos trivial]
        rfl

end Go.Proofs.Ytojlgjdebokelaa.Pure
