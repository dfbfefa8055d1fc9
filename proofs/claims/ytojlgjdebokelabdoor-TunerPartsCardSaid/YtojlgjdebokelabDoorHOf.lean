/- What the reference's sine (psalteryref03.of, Of) answers: 'sinv'. -/
import Derived.Test.YtojlgjdebokelabDoorHWave
namespace Go.Proofs.YtojlgjdebokelabDoorH
open Go.RowKit

theorem div_at (a d k : Int) (hd : 1 ≤ d) (h : k * d ≤ a) (h2 : a < k * d + d) : a / d = k ∧ a % d = a - k * d := by
  have e : a / d = k := by
    rw [Int.ediv_eq_iff_of_pos (by omega)]
    exact ⟨h, h2⟩
  refine ⟨e, ?_⟩
  rw [Int.emod_def, e, Int.mul_comm]
theorem sinv_lo (n d m : Int) (hd : 1 ≤ d) (hm : n % d = m) (h0 : 0 ≤ m) (h : 2 * m < d) : sinv n d = wavt ((if 4 * m ≥ d then 2 * d - 4 * m else 4 * m) * 1073741824 / d) := by
  unfold sinv
  rw [hm]
  by_cases c : 4 * m ≥ d
  · obtain ⟨e1, e2⟩ := div_at (4 * m) d 1 hd (by omega) (by omega)
    rw [e1, e2, if_neg (by decide), if_pos (by decide), if_pos c]
    all_goals (congr 3 <;> omega)
  · obtain ⟨e1, e2⟩ := div_at (4 * m) d 0 hd (by omega) (by omega)
    rw [e1, e2, if_neg (by decide), if_neg (by decide), if_neg c]
    all_goals (congr 3 <;> omega)
theorem sinv_hi (n d m : Int) (hd : 1 ≤ d) (hm : n % d = m) (h1 : m < d) (h : d ≤ 2 * m) : sinv n d = - wavt ((if 4 * m - 2 * d ≥ d then 4 * d - 4 * m else 4 * m - 2 * d) * 1073741824 / d) := by
  unfold sinv
  rw [hm]
  by_cases c : 4 * m - 2 * d ≥ d
  · obtain ⟨e1, e2⟩ := div_at (4 * m) d 3 hd (by omega) (by omega)
    rw [e1, e2, if_pos (by decide), if_pos (by decide), if_pos c]
    all_goals (congr 4 <;> omega)
  · obtain ⟨e1, e2⟩ := div_at (4 * m) d 2 hd (by omega) (by omega)
    rw [e1, e2, if_pos (by decide), if_neg (by decide), if_neg c]
    all_goals (congr 4 <;> omega)
set_option maxHeartbeats 1000000 in
theorem of_any (n e m : Int) (w : World) (he : 1 ≤ e) (he2 : e ≤ 2097152) (hn : -(2 * e) < n) (hn2 : n < 2 * e) (hm : (if n < 0 then n + 2 * e else n) = m) :
    Calls Tryd.prog 28 #[.int .i64 n, .int .i64 (2 * e)] w fun x w' => x = .returned (.int .i16 (if 2 * m ≥ 2 * e then - wavt ((if 4 * (m - e) ≥ 2 * e then 2 * (2 * e) - 4 * (m - e) else 4 * (m - e)) * 1073741824 / (2 * e)) else wavt ((if 4 * m ≥ 2 * e then 2 * (2 * e) - 4 * m else 4 * m) * 1073741824 / (2 * e)))) ∧ w = w' := by
  have hm0 : 0 ≤ m ∧ m < 2 * e := by rw [← hm]; split <;> omega
  by_cases c : 2 * m ≥ 2 * e
  · rw [if_pos c]
    have hs := fun w => signed_body true _ _ (2 * e) (m - e) w (by omega) (by omega) (by omega) (by omega) rfl rfl
    rw [if_pos rfl] at hs
    generalize wavt ((if 4 * (m - e) ≥ 2 * e then 2 * (2 * e) - 4 * (m - e) else 4 * (m - e)) * 1073741824 / (2 * e)) = y at *
    have Hs := Lib.hid hs
    clear hs
    by_cases c2 : n < 0
    · rw [if_pos c2] at hm
      subst hm
      go_enter Tryd.func28, Tryd.ntmps28
      go_wp2_with fail
      refine (Hs.out _).mono ?_; rintro x w' ⟨rfl, rfl⟩
      go_wp2
      go_ret
      exact ⟨rfl, rfl⟩
    · rw [if_neg c2] at hm
      subst hm
      go_enter Tryd.func28, Tryd.ntmps28
      go_wp2_with fail
      refine (Hs.out _).mono ?_; rintro x w' ⟨rfl, rfl⟩
      go_wp2
      go_ret
      exact ⟨rfl, rfl⟩
  · rw [if_neg c]
    have hs := fun w => signed_body false _ _ (2 * e) m w (by omega) (by omega) (by omega) (by omega) rfl rfl
    rw [if_neg (by decide)] at hs
    generalize wavt ((if 4 * m ≥ 2 * e then 2 * (2 * e) - 4 * m else 4 * m) * 1073741824 / (2 * e)) = y at *
    have Hs := Lib.hid hs
    clear hs
    by_cases c2 : n < 0
    · rw [if_pos c2] at hm
      subst hm
      go_enter Tryd.func28, Tryd.ntmps28
      go_wp2_with fail
      refine (Hs.out _).mono ?_; rintro x w' ⟨rfl, rfl⟩
      go_wp2
      go_ret
      exact ⟨rfl, rfl⟩
    · rw [if_neg c2] at hm
      subst hm
      go_enter Tryd.func28, Tryd.ntmps28
      go_wp2_with fail
      refine (Hs.out _).mono ?_; rintro x w' ⟨rfl, rfl⟩
      go_wp2
      go_ret
      exact ⟨rfl, rfl⟩
theorem mod_tmod (n d m : Int) (hd : 1 ≤ d) (hm : n % d = m) : (n.tmod d < 0 ∧ n.tmod d + d = m) ∨ (0 ≤ n.tmod d ∧ n.tmod d = m) := by
  have h1 := Int.tmod_add_mul_tdiv n d
  by_cases c : n.tmod d < 0
  · refine .inl ⟨c, ?_⟩
    rw [← hm, Int.emod_def, tdiv_neg_of_tmod hd c, Int.mul_sub, Int.mul_one]; omega
  · refine .inr ⟨by omega, ?_⟩
    rw [← hm, Int.emod_def, tdiv_of_tmod_nonneg hd c]; omega
set_option maxHeartbeats 1000000 in
theorem Of_lo (n d m : Int) (w : World) (hd : 1 ≤ d) (hd2 : d ≤ 4194304) (hm : n % d = m) (h0 : 0 ≤ m) (h : 2 * m < d) :
    Calls Tryd.prog 18 #[.int .i64 n, .int .i64 d] w fun e w' => e = .returned (.int .i16 (sinv n d)) ∧ w = w' := by
  have hd0 : (d == 0) = false := beq_eq_false_iff_ne.mpr (by omega)
  have hs := fun w => signed_body false _ _ d m w hd hd2 h0 h rfl rfl
  rw [if_neg (by decide), ← sinv_lo n d m hd hm h0 h] at hs
  generalize sinv n d = y at *
  have Hs := Lib.hid hs
  clear hs
  have hdec : decide (d ≤ 2 * m) = false := by simpa using h
  rcases mod_tmod n d m hd hm with ⟨c, e⟩ | ⟨c, e⟩
  all_goals
    subst m
    go_enter Tryd.func18, Tryd.ntmps18
    go_wp2_with fail
    refine (Hs.out _).mono ?_; rintro x w' ⟨rfl, rfl⟩
    go_wp2
    go_ret
    exact ⟨rfl, rfl⟩
set_option maxHeartbeats 1000000 in
theorem Of_even (n e m : Int) (w : World) (he : 1 ≤ e) (hd2 : e ≤ 2097152) (hm : n % (2 * e) = m) (h1 : m < 2 * e) (h : e ≤ m) :
    Calls Tryd.prog 18 #[.int .i64 n, .int .i64 (2 * e)] w fun x w' => x = .returned (.int .i16 (sinv n (2 * e))) ∧ w = w' := by
  have hd0 : (2 * e == 0) = false := beq_eq_false_iff_ne.mpr (by omega)
  have hs := fun w => signed_body true _ _ (2 * e) (m - e) w (by omega) (by omega) (by omega) (by omega) rfl rfl
  have hsv := sinv_hi n (2 * e) m (by omega) hm h1 (by omega)
  have hr : (if 4 * (m - e) ≥ 2 * e then 2 * (2 * e) - 4 * (m - e) else 4 * (m - e)) = (if 4 * m - 2 * (2 * e) ≥ 2 * e then 4 * (2 * e) - 4 * m else 4 * m - 2 * (2 * e)) := by
    by_cases c : 4 * (m - e) ≥ 2 * e
    · rw [if_pos c, if_pos (by omega)]; omega
    · rw [if_neg c, if_neg (by omega)]; omega
  rw [if_pos rfl, hr, ← hsv] at hs
  clear hsv hr
  generalize sinv n (2 * e) = y at *
  have Hs := Lib.hid hs
  clear hs
  rcases mod_tmod n (2 * e) m (by omega) hm with ⟨c, e'⟩ | ⟨c, e'⟩
  all_goals
    subst m
    go_enter Tryd.func18, Tryd.ntmps18
    go_wp2_with fail
    refine (Hs.out _).mono ?_; rintro x w' ⟨rfl, rfl⟩
    go_wp2
    go_ret
    exact ⟨rfl, rfl⟩
set_option maxHeartbeats 1000000 in
theorem Of_odd (n d m : Int) (w : World) (hd : 1 ≤ d) (hd2 : d ≤ 2097152) (ho : d % 2 = 1) (hm : n % d = m) (h1 : m < d) (h : d ≤ 2 * m) :
    Calls Tryd.prog 18 #[.int .i64 n, .int .i64 d] w fun x w' => x = .returned (.int .i16 (sinv n d)) ∧ w = w' := by
  have hd0 : (d == 0) = false := beq_eq_false_iff_ne.mpr (by omega)
  have ho2 : (d % 2 == 1) = true := beq_iff_eq.mpr ho
  have hsv := sinv_hi n d m (by omega) hm h1 (by omega)
  have hb : -d < n.tmod d := by have := Int.lt_tmod_of_pos n (b := d) (by omega); omega
  have hb2 : n.tmod d < d := Int.tmod_lt_of_pos n (by omega)
  have hm2 : (if 2 * n.tmod d < 0 then 2 * n.tmod d + 2 * d else 2 * n.tmod d) = 2 * m := by
    rcases mod_tmod n d m hd hm with ⟨c, e⟩ | ⟨c, e⟩
    · rw [if_pos (by omega)]; omega
    · rw [if_neg (by omega)]; omega
  have hs := fun w => of_any (2 * n.tmod d) d (2 * m) w hd hd2 (by omega) (by omega) hm2
  have hr : (if 4 * (2 * m - d) ≥ 2 * d then 2 * (2 * d) - 4 * (2 * m - d) else 4 * (2 * m - d)) * 1073741824 / (2 * d) = (if 4 * m - 2 * d ≥ d then 4 * d - 4 * m else 4 * m - 2 * d) * 1073741824 / d := by
    have : (if 4 * (2 * m - d) ≥ 2 * d then 2 * (2 * d) - 4 * (2 * m - d) else 4 * (2 * m - d)) = 2 * (if 4 * m - 2 * d ≥ d then 4 * d - 4 * m else 4 * m - 2 * d) := by
      by_cases c : 4 * (2 * m - d) ≥ 2 * d
      · rw [if_pos c, if_pos (by omega)]; omega
      · rw [if_neg c, if_neg (by omega)]; omega
    rw [this, Int.mul_assoc, Int.mul_ediv_mul_of_pos _ _ (by omega)]
  rw [if_pos (by omega), hr, ← hsv] at hs
  clear hsv hr hm2
  generalize sinv n d = y at *
  have Ho := Lib.hid ho
  clear ho
  have hdec : decide (d ≤ 2 * m) = true := by simpa using h
  rcases mod_tmod n d m (by omega) hm with ⟨c, e'⟩ | ⟨c, e'⟩
  · have Hs := Lib.hid hs
    clear hs
    subst m
    go_enter Tryd.func18, Tryd.ntmps18
    go_wp2_with fail
    refine (Hs.out _).mono ?_; rintro x w' ⟨rfl, rfl⟩
    go_wp2
    go_ret
    exact ⟨rfl, rfl⟩
  · rw [e'] at hs
    have Hs := Lib.hid hs
    clear hs
    subst m
    go_enter Tryd.func18, Tryd.ntmps18
    go_wp2_with fail
    refine (Hs.out _).mono ?_; rintro x w' ⟨rfl, rfl⟩
    go_wp2
    go_ret
    exact ⟨rfl, rfl⟩
theorem Of_any (n d : Int) (w : World) (hd : 1 ≤ d) (hd2 : d ≤ 4194304) (ho : d % 2 = 0 ∨ d ≤ 2097152) :
    Calls Tryd.prog 18 #[.int .i64 n, .int .i64 d] w fun x w' => x = .returned (.int .i16 (sinv n d)) ∧ w = w' := by
  have h0 := Int.emod_nonneg n (b := d) (by omega)
  have h1 := Int.emod_lt_of_pos n (b := d) (by omega)
  by_cases c : 2 * (n % d) < d
  · exact Of_lo n d _ w hd hd2 rfl h0 c
  · by_cases c2 : d % 2 = 0
    · obtain ⟨e, rfl⟩ : ∃ e, d = 2 * e := ⟨d / 2, by omega⟩
      exact Of_even n e _ w (by omega) (by omega) rfl h1 (by omega)
    · exact Of_odd n d _ w hd (by omega) (by omega) rfl h1 (by omega)
end Go.Proofs.YtojlgjdebokelabDoorH
