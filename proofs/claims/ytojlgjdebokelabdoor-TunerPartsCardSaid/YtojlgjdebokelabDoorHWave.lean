/- The sine of an angle: what wave.sine and the reference's signed answer, as one plain function 'sinv'. -/
import Derived.Test.YtojlgjdebokelabDoorHRound
import Derived.Test.YtojlgjdebokelabDoorHPure
namespace Go.Proofs.YtojlgjdebokelabDoorH
open Go.RowKit

/-- the polynomial of sines, by steps -/
def pol0 (u : Int) : Int := 5026995 - 172272 * u / 1073741824
def pol1 (u : Int) : Int := 85569306 - pol0 u * u / 1073741824
def pol2 (u : Int) : Int := 693598668 - pol1 u * u / 1073741824
def pol3 (u : Int) : Int := 1686629713 - pol2 u * u / 1073741824
theorem mul_div_bd {p u c : Int} (hp : 0 ≤ p) (hc : p ≤ c) (hu : 0 ≤ u) (hu2 : u ≤ 1073741824) : 0 ≤ p * u ∧ p * u ≤ c * 1073741824 ∧ 0 ≤ p * u / 1073741824 ∧ p * u / 1073741824 ≤ c := by
  have h1 : 0 ≤ p * u := Int.mul_nonneg hp hu
  have h2 : p * u ≤ c * 1073741824 := Int.mul_le_mul hc hu2 hu (by omega)
  exact ⟨h1, h2, by omega, by omega⟩
theorem pol0_bd {u : Int} (hu : 0 ≤ u) (hu2 : u ≤ 1073741824) : 4854723 ≤ pol0 u ∧ pol0 u ≤ 5026995 := by
  have := mul_div_bd (p := 172272) (c := 172272) (by omega) (by omega) hu hu2
  unfold pol0; omega
theorem pol1_bd {u : Int} (hu : 0 ≤ u) (hu2 : u ≤ 1073741824) : 80542311 ≤ pol1 u ∧ pol1 u ≤ 85569306 := by
  have h := pol0_bd hu hu2
  have := mul_div_bd (p := pol0 u) (c := 5026995) (by omega) (by omega) hu hu2
  unfold pol1; omega
theorem pol2_bd {u : Int} (hu : 0 ≤ u) (hu2 : u ≤ 1073741824) : 608029362 ≤ pol2 u ∧ pol2 u ≤ 693598668 := by
  have h := pol1_bd hu hu2
  have := mul_div_bd (p := pol1 u) (c := 85569306) (by omega) (by omega) hu hu2
  unfold pol2; omega
theorem pol3_bd {u : Int} (hu : 0 ≤ u) (hu2 : u ≤ 1073741824) : 993031045 ≤ pol3 u ∧ pol3 u ≤ 1686629713 := by
  have h := pol2_bd hu hu2
  have := mul_div_bd (p := pol2 u) (c := 693598668) (by omega) (by omega) hu hu2
  unfold pol3; omega
/-- The sine of t parts of 2^30 of a quarter. -/
def wavt (t : Int) : Int := clamp (rnd (pol3 (t * t / 1073741824) * t / 1073741824) 15) 0 32767
/-- The sine of an angle. -/
def sinv (n d : Int) : Int :=
  if 4 * (n % d) / d ≥ 2 then - wavt ((if 4 * (n % d) / d % 2 = 1 then d - 4 * (n % d) % d else 4 * (n % d) % d) * 1073741824 / d)
  else wavt ((if 4 * (n % d) / d % 2 = 1 then d - 4 * (n % d) % d else 4 * (n % d) % d) * 1073741824 / d)

theorem modulo_any (n d : Int) (w : World) (hd : 1 ≤ d) (hd2 : d ≤ 4194304) :
    Calls Tryd.prog 26 #[.int .i64 n, .int .i64 d] w fun e w' => e = .returned (.int .i64 (n % d)) ∧ w = w' := by
  have hd0 : (d == 0) = false := beq_eq_false_iff_ne.mpr (by omega)
  have hb : -d < n.tmod d := by have := Int.lt_tmod_of_pos n (b := d) (by omega); omega
  have hb2 : n.tmod d < d := Int.tmod_lt_of_pos n (by omega)
  have h1 := Int.tmod_add_mul_tdiv n d
  have h3 := Int.emod_add_mul_ediv n d
  by_cases c : n.tmod d < 0
  · have e : n.tmod d + d = n % d := by
      rw [Int.emod_def, tdiv_neg_of_tmod hd c, Int.mul_sub, Int.mul_one]; omega
    have He := Lib.hid e
    clear e h1 h3
    go_enter Tryd.func26, Tryd.ntmps26
    go_wp2
    go_ret
    exact ⟨ret_int He.out, rfl⟩
  · have e : n.tmod d = n % d := by
      rw [Int.emod_def, tdiv_of_tmod_nonneg hd c]; omega
    have He := Lib.hid e
    clear e h1 h3
    go_enter Tryd.func26, Tryd.ntmps26
    go_wp2
    go_ret
    exact ⟨ret_int He.out, rfl⟩
theorem height_any (n d : Int) (w : World) (hd : 1 ≤ d) (hd2 : d ≤ 4194304) :
    Calls Tryd.prog 33 #[.int .i64 n, .int .i64 d] w fun e w' => e = .returned (.tuple #[.int .u64 ((if 4 * (n % d) / d % 2 = 1 then d - 4 * (n % d) % d else 4 * (n % d) % d) * 1073741824 / d), .int .i64 (4 * (n % d) / d)]) ∧ w = w' := by
  have hd0 : (d == 0) = false := beq_eq_false_iff_ne.mpr (by omega)
  have hm := Int.emod_nonneg n (b := d) (by omega)
  have hm2 := Int.emod_lt_of_pos n (b := d) (by omega)
  generalize hmn : n % d = m at *
  have Hm := Lib.hid hmn
  clear hmn
  have hq : 0 ≤ 4 * m / d := Int.ediv_nonneg (by omega) (by omega)
  have hq2 : 4 * m / d < 4 := by rw [Int.ediv_lt_iff_lt_mul (by omega)]; omega
  have hr := Int.emod_nonneg (4 * m) (b := d) (by omega)
  have hr2 := Int.emod_lt_of_pos (4 * m) (b := d) (by omega)
  have ha := and_one_i64 (4 * m / d)
  by_cases c : 4 * m / d % 2 = 1
  · rw [if_pos c]
    have hb : (bits .and .i64 (4 * m / d) 1 == 1) = true := by rw [ha, c]; rfl
    clear ha c
    go_enter Tryd.func33, Tryd.ntmps33
    go_wp2_with (go_at_call 26; refine (modulo_any n d _ hd hd2).mono ?_; rintro e w' ⟨rfl, rfl⟩; rw [Hm.out])
    go_ret2
    exact ⟨rfl, rfl⟩
  · rw [if_neg c]
    have hb : (bits .and .i64 (4 * m / d) 1 == 1) = false := by rw [ha]; exact beq_eq_false_iff_ne.mpr c
    clear ha c
    go_enter Tryd.func33, Tryd.ntmps33
    go_wp2_with (go_at_call 26; refine (modulo_any n d _ hd hd2).mono ?_; rintro e w' ⟨rfl, rfl⟩; rw [Hm.out])
    go_ret2
    exact ⟨rfl, rfl⟩
theorem part_bd {r d : Int} (hd : 1 ≤ d) (h0 : 0 ≤ r) (h1 : r ≤ d) : 0 ≤ r * 1073741824 / d ∧ r * 1073741824 / d ≤ 1073741824 := by
  refine ⟨Int.ediv_nonneg (by omega) (by omega), ?_⟩
  have : r * 1073741824 / d < 1073741824 + 1 := by
    rw [Int.ediv_lt_iff_lt_mul (by omega)]
    omega
  omega
theorem wavt_bd (t : Int) : 0 ≤ wavt t ∧ wavt t ≤ 32767 := by
  unfold wavt
  exact clamp_in _ _ _ (by decide)
theorem sq_bd {t : Int} (h0 : 0 ≤ t) (h1 : t ≤ 1073741824) : 0 ≤ t * t ∧ t * t ≤ 1152921504606846976 ∧ 0 ≤ t * t / 1073741824 ∧ t * t / 1073741824 ≤ 1073741824 := mul_div_bd (p := t) (c := 1073741824) h0 h1 h0 h1
def polk (u : Int) (k : Nat) : Int := match k with | 0 => 172272 | 1 => pol0 u | 2 => pol1 u | 3 => pol2 u | _ => pol3 u

set_option maxHeartbeats 4000000 in
theorem sine_body (t q : Int) (h0 : 0 ≤ t) (h1 : t ≤ 1073741824) (n d : Int) (w : World) (hh : ∀ w : World, Calls Tryd.prog 33 #[.int .i64 n, .int .i64 d] w fun e w' => e = .returned (.tuple #[.int .u64 t, .int .i64 q]) ∧ w = w') :
    Calls Tryd.prog 25 #[.int .i64 n, .int .i64 d] w fun e w' => e = .returned (.int .i16 (if q ≥ 2 then - wavt t else wavt t)) ∧ ∃ k, w' = w.drewN k := by
  have i0 : ∀ w : World, (Instr.index 61 (.agg #[.int .u64 5026995, .int .u64 85569306, .int .u64 693598668, .int .u64 1686629713]) (.int .i64 0)).run Tryd.prog w = .ok (.int .u64 5026995) w := fun _ => by kernel_rfl
  have i1 : ∀ w : World, (Instr.index 61 (.agg #[.int .u64 5026995, .int .u64 85569306, .int .u64 693598668, .int .u64 1686629713]) (.int .i64 1)).run Tryd.prog w = .ok (.int .u64 85569306) w := fun _ => by kernel_rfl
  have i2 : ∀ w : World, (Instr.index 61 (.agg #[.int .u64 5026995, .int .u64 85569306, .int .u64 693598668, .int .u64 1686629713]) (.int .i64 2)).run Tryd.prog w = .ok (.int .u64 693598668) w := fun _ => by kernel_rfl
  have i3 : ∀ w : World, (Instr.index 61 (.agg #[.int .u64 5026995, .int .u64 85569306, .int .u64 693598668, .int .u64 1686629713]) (.int .i64 3)).run Tryd.prog w = .ok (.int .u64 1686629713) w := fun _ => by kernel_rfl
  obtain ⟨a1, a2, a3, a4⟩ := sq_bd h0 h1
  obtain ⟨w1, w2⟩ := wavt_bd t
  generalize hu : t * t / 1073741824 = u at *
  have p0 := mul_div_bd (p := 172272) (c := 172272) (by omega) (by omega) a3 a4
  have b0 := pol0_bd a3 a4
  have p1 := mul_div_bd (p := pol0 u) (c := 5026995) (by omega) (by omega) a3 a4
  have b1 := pol1_bd a3 a4
  have p2 := mul_div_bd (p := pol1 u) (c := 85569306) (by omega) (by omega) a3 a4
  have b2 := pol2_bd a3 a4
  have p3 := mul_div_bd (p := pol2 u) (c := 693598668) (by omega) (by omega) a3 a4
  have b3 := pol3_bd a3 a4
  have p4 := mul_div_bd (p := pol3 u) (c := 1686629713) (u := t) (by omega) (by omega) h0 h1
  have hw : wavt t = clamp (rnd (pol3 u * t / 1073741824) 15) 0 32767 := by unfold wavt; rw [hu]
  have Hu := Lib.hid hu
  have Hw := Lib.hid hw
  have e0 := Lib.hid (show 5026995 - 172272 * u / 1073741824 = pol0 u from rfl)
  have e1 := Lib.hid (show 85569306 - pol0 u * u / 1073741824 = pol1 u from rfl)
  have e2 := Lib.hid (show 693598668 - pol1 u * u / 1073741824 = pol2 u from rfl)
  have e3 := Lib.hid (show 1686629713 - pol2 u * u / 1073741824 = pol3 u from rfl)
  clear hu hw
  by_cases hq : q ≥ 2
  all_goals
    first | rw [if_pos hq] | rw [if_neg hq]
    go_enter Tryd.func25, Tryd.ntmps25
    go_wp2_with (go_at_call 33; refine (hh _).mono ?_; rintro e w' ⟨rfl, rfl⟩)
    rw [Hu.out]
    go_loop [8, 23] (fun p i => (i = .int .i64 0 ∧ p = .int .u64 172272) ∨ (i = .int .i64 1 ∧ p = .int .u64 (pol0 u)) ∨ (i = .int .i64 2 ∧ p = .int .u64 (pol1 u)) ∨ (i = .int .i64 3 ∧ p = .int .u64 (pol2 u)) ∨ (i = .int .i64 4 ∧ p = .int .u64 (pol3 u))) (fun _ i => 4 - (intOf i).toNat)
    case atStart => exact .inl ⟨rfl, rfl⟩
    case round =>
      rcases hrel with ⟨rfl, rfl⟩ | ⟨rfl, rfl⟩ | ⟨rfl, rfl⟩ | ⟨rfl, rfl⟩ | ⟨rfl, rfl⟩
      · go_wp2
        go_round
        case rel => exact .inr (.inl ⟨rfl, by rw [e0.out]⟩)
        case measure => simp [intOf]
      · go_wp2
        go_round
        case rel => exact .inr (.inr (.inl ⟨rfl, by rw [e1.out]⟩))
        case measure => simp [intOf]
      · go_wp2
        go_round
        case rel => exact .inr (.inr (.inr (.inl ⟨rfl, by rw [e2.out]⟩)))
        case measure => simp [intOf]
      · go_wp2
        go_round
        case rel => exact .inr (.inr (.inr (.inr ⟨rfl, by rw [e3.out]⟩)))
        case measure => simp [intOf]
      · go_wp2_with (first | (go_at_call 17; refine (fixround_any _ _ _ (by omega)).mono ?_; rintro e w' ⟨rfl, nk, rfl⟩) | (go_at_call 34; refine (clip_any _ _ _ _).mono ?_; rintro e w' ⟨rfl, rfl⟩; rw [← Hw.out]))
        go_ret
        exact ⟨rfl, _, rfl⟩
theorem sine_any (n d : Int) (w : World) (hd : 1 ≤ d) (hd2 : d ≤ 4194304) :
    Calls Tryd.prog 25 #[.int .i64 n, .int .i64 d] w fun e w' => e = .returned (.int .i16 (sinv n d)) ∧ ∃ k, w' = w.drewN k := by
  have hr := Int.emod_nonneg (4 * (n % d)) (b := d) (by omega)
  have hr2 := Int.emod_lt_of_pos (4 * (n % d)) (b := d) (by omega)
  have hb : 0 ≤ (if 4 * (n % d) / d % 2 = 1 then d - 4 * (n % d) % d else 4 * (n % d) % d) ∧ (if 4 * (n % d) / d % 2 = 1 then d - 4 * (n % d) % d else 4 * (n % d) % d) ≤ d := by split <;> omega
  obtain ⟨c1, c2⟩ := part_bd hd hb.1 hb.2
  exact sine_body _ _ c1 c2 n d w (fun w => height_any n d w hd hd2)
theorem part_any (n d : Int) (w : World) (h0 : 0 ≤ n * d) (h1 : n * d ≤ 9223372036854775807) :
    Calls Tryd.prog 35 #[.int .i64 n, .int .i64 d] w fun e w' => e = .returned (.int .i64 (n * d / 1073741824)) ∧ w = w' := by
  go_enter Tryd.func35, Tryd.ntmps35
  go_wp2
  go_ret
  exact ⟨rfl, rfl⟩
theorem rnd_nonneg {n : Int} (h : 0 ≤ n) : 0 ≤ rnd n 15 := by
  unfold rnd
  rw [if_neg (by omega), if_neg (by omega)]
  have : (0 : Int) ≤ n / 2 ^ ((15 : Int).toNat - 1) := Int.ediv_nonneg h (by decide)
  omega
set_option maxHeartbeats 8000000 in
theorem signed_body (b : Bool) (r t d n : Int) (w : World) (hd : 1 ≤ d) (hd2 : d ≤ 4194304) (hn : 0 ≤ n) (hn2 : 2 * n < d) (hr : (if 4 * n ≥ d then 2 * d - 4 * n else 4 * n) = r) (ht : r * 1073741824 / d = t) :
    Calls Tryd.prog 29 #[.int .i64 n, .int .i64 d, .bool b] w fun e w' => e = .returned (.int .i16 (if b = true then - wavt t else wavt t)) ∧ w = w' := by
  have hd0 : (d == 0) = false := beq_eq_false_iff_ne.mpr (by omega)
  have hb : 0 ≤ r ∧ r ≤ d := by
    rw [← hr]; split <;> omega
  obtain ⟨h0, h1⟩ := part_bd hd hb.1 hb.2
  rw [ht] at h0 h1
  have Ht := Lib.hid ht
  obtain ⟨a1, a2, a3, a4⟩ := sq_bd h0 h1
  obtain ⟨w1, w2⟩ := wavt_bd t
  generalize hu : t * t / 1073741824 = u at *
  have p0 := mul_div_bd (p := 172272) (c := 172272) (by omega) (by omega) a3 a4
  have b0 := pol0_bd a3 a4
  have p1 := mul_div_bd (p := pol0 u) (c := 5026995) (by omega) (by omega) a3 a4
  have b1 := pol1_bd a3 a4
  have p2 := mul_div_bd (p := pol1 u) (c := 85569306) (by omega) (by omega) a3 a4
  have b2 := pol2_bd a3 a4
  have p3 := mul_div_bd (p := pol2 u) (c := 693598668) (by omega) (by omega) a3 a4
  have b3 := pol3_bd a3 a4
  have p4 := mul_div_bd (p := pol3 u) (c := 1686629713) (u := t) (by omega) (by omega) h0 h1
  have hw : wavt t = clamp (rnd (pol3 u * t / 1073741824) 15) 0 32767 := by unfold wavt; rw [hu]
  have hy := rnd_nonneg p4.2.2.1
  have Hu := Lib.hid hu
  have e0 := Lib.hid (show 5026995 - 172272 * u / 1073741824 = pol0 u from rfl)
  have e1 := Lib.hid (show 85569306 - pol0 u * u / 1073741824 = pol1 u from rfl)
  have e2 := Lib.hid (show 693598668 - pol1 u * u / 1073741824 = pol2 u from rfl)
  have e3 := Lib.hid (show 1686629713 - pol2 u * u / 1073741824 = pol3 u from rfl)
  clear hu ht
  have hwy : (rnd (pol3 u * t / 1073741824) 15 > 32767 ∧ wavt t = 32767) ∨ (¬ rnd (pol3 u * t / 1073741824) 15 > 32767 ∧ wavt t = rnd (pol3 u * t / 1073741824) 15) := by
    rw [hw]; unfold clamp
    rw [if_neg (by omega)]
    by_cases c : rnd (pol3 u * t / 1073741824) 15 > 32767
    · exact .inl ⟨c, by rw [if_pos c]⟩
    · exact .inr ⟨c, by rw [if_neg c]⟩
  clear hw
  generalize hyy : rnd (pol3 u * t / 1073741824) 15 = y at *
  have Hy := Lib.hid hyy
  clear hyy
  rcases hwy with ⟨cy, hwy⟩ | ⟨cy, hwy⟩
  all_goals
    rw [hwy] at w1 w2 ⊢
    clear hwy
    by_cases c : 4 * n ≥ d
    all_goals
      first | rw [if_pos c] at hr | rw [if_neg c] at hr
      subst hr
      cases b
      all_goals
        go_enter Tryd.func29, Tryd.ntmps29
        go_wp2_with fail
        rw [Ht.out]
        refine (part_any t t _ (by omega) (by omega)).mono ?_; rintro e w' ⟨rfl, rfl⟩
        rw [Hu.out]
        go_wp2_with fail
        refine (part_any 172272 u _ (by omega) (by omega)).mono ?_; rintro e w' ⟨rfl, rfl⟩
        go_wp2_with fail
        rw [e0.out]
        refine (part_any (pol0 u) u _ (by omega) (by omega)).mono ?_; rintro e w' ⟨rfl, rfl⟩
        go_wp2_with fail
        rw [e1.out]
        refine (part_any (pol1 u) u _ (by omega) (by omega)).mono ?_; rintro e w' ⟨rfl, rfl⟩
        go_wp2_with fail
        rw [e2.out]
        refine (part_any (pol2 u) u _ (by omega) (by omega)).mono ?_; rintro e w' ⟨rfl, rfl⟩
        go_wp2_with fail
        rw [e3.out]
        refine (part_any (pol3 u) t _ (by omega) (by omega)).mono ?_; rintro e w' ⟨rfl, rfl⟩
        go_wp2_with fail
        refine (rnd_any _ _ _ (by omega)).mono ?_; rintro e w' ⟨rfl, rfl⟩
        rw [Hy.out]
        go_wp2
        go_ret
        exact ⟨rfl, rfl⟩
end Go.Proofs.YtojlgjdebokelabDoorH
