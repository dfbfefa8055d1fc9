/- What psalteryref01.Round answers: the number rounded by bits; nothing in memory turns. -/
import Derived.Test.YtojlgjdebokelabDoorHWord
import Derived.Test.YtojlgjdebokelabDoorProg
import Derived.Test.YtojlgjdebokelabDoorWWords
import Derived.WalkKit
import Derived.Deep.QuietTactic
import Derived.BigQuiet
import Derived.KernelRfl
import Derived.RowKit3
import Derived.OwnWalk
import Derived.WalkLawsBesides
import Derived.Lib.Hide
namespace Go.Proofs.YtojlgjdebokelabDoorH
open Go.RowKit

theorem down_any (n d : Int) (w : World) (hd : 1 ≤ d) (hn : -9223372036854775808 ≤ n ∧ n ≤ 9223372036854775807) :
    Calls Tryd.prog 30 #[.int .i64 n, .int .i64 d] w fun e w' => e = .returned (.int .i64 (n / d)) ∧ w = w' := by
  have hd0 : (d == 0) = false := beq_eq_false_iff_ne.mpr (by omega)
  have hb := div_le_self hd hn
  by_cases c : Int.tmod n d < 0
  · have c' : decide (Int.tmod n d < 0) = true := by simpa using c
    rw [tdiv_neg_of_tmod hd c] at hb ⊢
    go_enter Tryd.func30, Tryd.ntmps30
    go_wp2
    go_ret
    exact ⟨rfl, rfl⟩
  · have c' : decide (Int.tmod n d < 0) = false := by simpa using c
    rw [tdiv_of_tmod_nonneg hd c] at hb ⊢
    go_enter Tryd.func30, Tryd.ntmps30
    go_wp2
    go_ret
    exact ⟨rfl, rfl⟩
theorem rnd_mid (n s : Int) (w : World) (h1 : 1 ≤ s) (h2 : s ≤ 62) (hn : -9223372036854775808 ≤ n ∧ n ≤ 9223372036854775807) :
    Calls Tryd.prog 19 #[.int .i64 n, .int .i64 s] w fun e w' => e = .returned (.int .i64 (rnd n s)) ∧ w = w' := by
  have hs0 : (s == 0) = false := beq_eq_false_iff_ne.mpr (by omega)
  obtain ⟨hp, hp1⟩ := pow_of s h1 h2
  have hr : rnd n s = (n / (2 ^ (s.toNat - 1)) + 1) / 2 := by
    unfold rnd
    rw [if_neg (by omega)]
    by_cases c : 62 ≤ s
    · rw [if_pos c]
      have : s = 62 := by omega
      subst this; rfl
    · rw [if_neg c]
  rw [hr]
  clear hr
  generalize hg : (2 : Int) ^ (s.toNat - 1) = h at *
  have hb := div_le_self hp1 hn
  generalize hq : n / h = q at *
  have Hp := Lib.hid hp
  have Hg := Lib.hid hg
  have Hq := Lib.hid hq
  clear hp hg hq
  go_enter Tryd.func19, Tryd.ntmps19
  go_wp2_with fail
  rw [Hg.out, Hp.out]
  refine (down_any n h _ hp1 hn).mono ?_
  rintro e w' ⟨rfl, rfl⟩
  rw [Hq.out]
  go_wp2_with fail
  refine (down_any q 2 _ (by omega) hb).mono ?_
  rintro e w' ⟨rfl, rfl⟩
  go_wp2
  go_ret
  exact ⟨ret_int (halve q), rfl⟩
theorem rnd_low (n s : Int) (w : World) (h1 : s ≤ 0) :
    Calls Tryd.prog 19 #[.int .i64 n, .int .i64 s] w fun e w' => e = .returned (.int .i64 (rnd n s)) ∧ w = w' := by
  have hr : rnd n s = n := by
    unfold rnd
    rw [if_pos h1]
  rw [hr]
  clear hr
  by_cases c : s = 0
  · subst c
    go_enter Tryd.func19, Tryd.ntmps19
    go_wp2_with fail
    go_ret
    exact ⟨rfl, rfl⟩
  · have c' : s < 0 := by omega
    clear c h1
    go_enter Tryd.func19, Tryd.ntmps19
    go_wp2_with fail
    go_ret
    exact ⟨rfl, rfl⟩
theorem rnd_high (n s : Int) (w : World) (h1 : 63 ≤ s) (hn : -9223372036854775808 ≤ n ∧ n ≤ 9223372036854775807) :
    Calls Tryd.prog 19 #[.int .i64 n, .int .i64 s] w fun e w' => e = .returned (.int .i64 (rnd n s)) ∧ w = w' := by
  have hr : rnd n s = (n / 2305843009213693952 + 1) / 2 := by
    unfold rnd
    rw [if_neg (by omega), if_pos (by omega)]
  rw [hr]
  clear hr
  have hb := div_le_self (n := n) (d := 2305843009213693952) (by omega) hn
  generalize hq : n / 2305843009213693952 = q at *
  have Hq := Lib.hid hq
  clear hq
  go_enter Tryd.func19, Tryd.ntmps19
  go_wp2_with fail
  refine (down_any n 2305843009213693952 _ (by omega) hn).mono ?_
  rintro e w' ⟨rfl, rfl⟩
  rw [Hq.out]
  go_wp2_with fail
  refine (down_any q 2 _ (by omega) hb).mono ?_
  rintro e w' ⟨rfl, rfl⟩
  go_wp2
  go_ret
  exact ⟨ret_int (halve q), rfl⟩
theorem rnd_any (n s : Int) (w : World) (hn : -9223372036854775808 ≤ n ∧ n ≤ 9223372036854775807) :
    Calls Tryd.prog 19 #[.int .i64 n, .int .i64 s] w fun e w' => e = .returned (.int .i64 (rnd n s)) ∧ w = w' := by
  by_cases c : s ≤ 0
  · exact rnd_low n s w c
  · by_cases c2 : s ≤ 62
    · exact rnd_mid n s w (by omega) c2 hn
    · exact rnd_high n s w (by omega) hn
theorem within64_any (n lo hi : Int) (w : World) :
    Calls Tryd.prog 38 #[.int .i64 n, .int .i64 lo, .int .i64 hi] w fun e w' => e = .returned (.int .i64 (clamp n lo hi)) ∧ w = w' := by
  unfold clamp
  by_cases h : n < lo
  · rw [if_pos h]
    go_enter Tryd.func38, Tryd.ntmps38
    go_wp2
    go_ret
    exact ⟨rfl, rfl⟩
  · rw [if_neg h]
    by_cases h2 : hi < n
    · rw [if_pos h2]
      go_enter Tryd.func38, Tryd.ntmps38
      go_wp2
      go_ret
      exact ⟨rfl, rfl⟩
    · rw [if_neg h2]
      go_enter Tryd.func38, Tryd.ntmps38
      go_wp2
      go_ret
      exact ⟨rfl, rfl⟩
theorem withinint_any (n lo hi : Int) (w : World) :
    Calls Tryd.prog 27 #[.int .i64 n, .int .i64 lo, .int .i64 hi] w fun e w' => e = .returned (.int .i64 (clamp n lo hi)) ∧ w = w' := by
  unfold clamp
  by_cases h : n < lo
  · rw [if_pos h]
    go_enter Tryd.func27, Tryd.ntmps27
    go_wp2
    go_ret
    exact ⟨rfl, rfl⟩
  · rw [if_neg h]
    by_cases h2 : hi < n
    · rw [if_pos h2]
      go_enter Tryd.func27, Tryd.ntmps27
      go_wp2
      go_ret
      exact ⟨rfl, rfl⟩
    · rw [if_neg h2]
      go_enter Tryd.func27, Tryd.ntmps27
      go_wp2
      go_ret
      exact ⟨rfl, rfl⟩
theorem fixround_mid (n s : Int) (w : World) (h1 : 1 ≤ s) (h2 : s ≤ 62) (hn : -9223372036854775808 ≤ n ∧ n ≤ 9223372036854775807) :
    Calls Tryd.prog 17 #[.int .i64 n, .int .i64 s] w fun e w' => e = .returned (.int .i64 (rnd n s)) ∧ ∃ k, w' = w.drewN k := by
  have hc : clamp s 0 62 = s := by
    unfold clamp; rw [if_neg (by omega), if_neg (by omega)]
  have Hc := Lib.hid hc
  clear hc
  have hs0 : (s == 0) = false := beq_eq_false_iff_ne.mpr (by omega)
  have Hr := Lib.hid (rnd_eq n s h1 h2 hn)
  go_enter Tryd.func17, Tryd.ntmps17
  go_wp2_with (go_at_call 27; refine (withinint_any _ _ _ _).mono ?_; rintro e w' ⟨rfl, rfl⟩; rw [Hc.out])
  go_quiet (fail)
  go_wp2
  go_ret
  exact ⟨ret_int Hr.out, nq, rfl⟩
theorem fixround_low (n s : Int) (w : World) (h1 : s ≤ 0) :
    Calls Tryd.prog 17 #[.int .i64 n, .int .i64 s] w fun e w' => e = .returned (.int .i64 (rnd n s)) ∧ ∃ k, w' = w.drewN k := by
  have hr : rnd n s = n := by
    unfold rnd; rw [if_pos h1]
  rw [hr]; clear hr
  have hc : clamp s 0 62 = 0 := by
    unfold clamp
    by_cases c : s < 0
    · rw [if_pos c]
    · rw [if_neg c, if_neg (by omega)]; omega
  have Hc := Lib.hid hc
  clear hc
  go_enter Tryd.func17, Tryd.ntmps17
  go_wp2_with (go_at_call 27; refine (withinint_any _ _ _ _).mono ?_; rintro e w' ⟨rfl, rfl⟩; rw [Hc.out])
  go_ret
  exact ⟨rfl, 0, rfl⟩
theorem fixround_high (n s : Int) (w : World) (h1 : 62 ≤ s) (hn : -9223372036854775808 ≤ n ∧ n ≤ 9223372036854775807) :
    Calls Tryd.prog 17 #[.int .i64 n, .int .i64 s] w fun e w' => e = .returned (.int .i64 (rnd n s)) ∧ ∃ k, w' = w.drewN k := by
  have hr : rnd n s = (n / 2305843009213693952 + 1) / 2 := by
    unfold rnd; rw [if_neg (by omega), if_pos h1]
  have hr2 : rnd n s = wrap64 (n / 4611686018427387904 + bits .and .i64 (n / 2305843009213693952) 1) := by
    rw [hr, and_one_i64]
    unfold wrap64; omega
  clear hr
  have hc : clamp s 0 62 = 62 := by
    unfold clamp
    rw [if_neg (by omega)]
    by_cases c : s > 62
    · rw [if_pos c]
    · rw [if_neg c]; omega
  have Hc := Lib.hid hc
  have Hr := Lib.hid hr2
  clear hc hr2
  go_enter Tryd.func17, Tryd.ntmps17
  go_wp2_with (go_at_call 27; refine (withinint_any _ _ _ _).mono ?_; rintro e w' ⟨rfl, rfl⟩; rw [Hc.out])
  go_quiet (fail)
  go_wp2
  go_ret
  exact ⟨ret_int Hr.out.symm, nq, rfl⟩
theorem fixround_any (n s : Int) (w : World) (hn : -9223372036854775808 ≤ n ∧ n ≤ 9223372036854775807) :
    Calls Tryd.prog 17 #[.int .i64 n, .int .i64 s] w fun e w' => e = .returned (.int .i64 (rnd n s)) ∧ ∃ k, w' = w.drewN k := by
  by_cases c : s ≤ 0
  · exact fixround_low n s w c
  · by_cases c2 : s ≤ 62
    · exact fixround_mid n s w (by omega) c2 hn
    · exact fixround_high n s w (by omega) hn
theorem clip_any (n lo hi : Int) (w : World) :
    Calls Tryd.prog 34 #[.int .i64 n, .int .i64 lo, .int .i64 hi] w fun e w' => e = .returned (.int .i64 (clamp n lo hi)) ∧ w = w' := by
  go_enter Tryd.func34, Tryd.ntmps34
  go_wp2_with (go_at_call 38; refine (within64_any _ _ _ _).mono ?_; rintro e w' ⟨rfl, rfl⟩)
  go_ret
  exact ⟨rfl, rfl⟩
end Go.Proofs.YtojlgjdebokelabDoorH
