-- Written by wip/myprint.py, a program of this session's, over the kit's print and this session's given texts. Not trusted: Lean checks it.
import Derived.Test.YtojlgjdebokelabDoorPTunerPartsx0
namespace Go.Proofs.YtojlgjdebokelabDoor.PTunerParts
open Go.RowKit Go.Proofs.YtojlgjdebokelabDoorW.PrintWords Go.Proofs.YtojlgjdebokelabDoorW.PrintLast Go.Proofs.YtojlgjdebokelabDoorW.PrintMore
attribute [local go_sem] max2_int min2_int max_two min_two max_three min_three max_four min_four   -- for this text's walks alone
set_option linter.unusedVariables false
set_option linter.unusedSimpArgs false

/-! ### bits_Len64: function 36 (this session's text) -/
def bits_Len64.f (a0 : Int) : Option (Int) := if 0 ≤ a0 then (if a0 ≤ 18446744073709551615 then (some (((Lib.bitLen a0.toNat : Nat) : Int))) else none) else none
theorem bits_Len64.calls (a0 : Int) (r : Int) (w : World) (h : bits_Len64.f a0 = some r) :
    Calls Tryd.prog 36 #[.int .u64 a0] w fun e w' => e = .returned (.int .i64 r) ∧ Drawn0 w w' := by
  unfold bits_Len64.f at h
  by_cases h0 : 0 ≤ a0
  · rw [if_pos h0] at h
    by_cases h1 : a0 ≤ 18446744073709551615
    · rw [if_pos h1] at h
      obtain rfl := Option.some.inj h
      exact (Go.Proofs.YtojlgjdebokelabDoorH.len64_any a0 w h0 h1).mono fun e w' hh => ⟨hh.1, by rw [← hh.2]; exact Drawn0.refl w⟩
    · rw [if_neg h1] at h; cases h
  · rw [if_neg h0] at h; cases h

/-! ### logs_Bits: function 31 -/
def logs_Bits.f (a0 : Int) : Option (Int) := (bits_Len64.f a0).bind fun t101 => (some t101)
set_option maxHeartbeats 8000000 in
set_option maxRecDepth 100000 in
theorem logs_Bits.calls (a0 : Int) (r : Int) (w : World) (h : logs_Bits.f a0 = some r) :
    Calls Tryd.prog 31 #[.int .u64 a0] w fun e w' => e = .returned (.int .i64 r) ∧ Drawn0 w w' := by
  have H : ((bits_Len64.f a0).bind fun t101 => (some t101)) = some r := h
  clear h
  replace H := Option.bind_eq_some_iff.mp H
  obtain ⟨t101, A20, H⟩ := H
  replace H : (some t101) = some r := H
  have A2 := Aside0.mk A20
  clear A20
  obtain rfl := Option.some.inj H
  go_enter Tryd.func31, Tryd.ntmps31
  go_wp2_with (first | ((with_reducible refine gate_callee (f := 36) rfl ?_); refine goesL_ (some 4) rfl rfl Tryd.func36 (by kernel_rfl) rfl #[.int .u64 a0] rfl (by (try simp only [List.map_toArray, List.map_cons, List.map_nil]); first | done | rfl | (simp only [List.length_drop, List.length_take]; rfl)) ?_; (with_reducible refine (bits_Len64.calls a0 t101 _ A2.out).mono ?_); rintro e w' ⟨rfl, ⟨nd, rfl⟩⟩; refine ⟨_, rfl, ?_⟩))
  go_ret
  exact ⟨by first | rfl | (simp; done) | (simp [*]; done), by repeat (first | exact Drawn0.refl _ | apply Drawn0.step)⟩

-- NOT PRINTED: function 20 (logs_Log)

-- NOT PRINTED: function 12 (tuner_Note)

-- NOT PRINTED: function 23 (tuner_note)

-- NOT PRINTED: function 39 (strconv_small)

-- NOT PRINTED: function 43 (strconv_log10Pow2)

-- NOT PRINTED: function 44 (strconv_bool2_int)

-- NOT PRINTED: function 40 (strconv_numDigits)

-- NOT PRINTED: function 41 (strconv_formatBase10)

-- NOT PRINTED: function 45 (strconv_isPowerOfTwo)

-- NOT PRINTED: function 47 (bits_TrailingZeros32)

-- NOT PRINTED: function 48 (bits_TrailingZeros64)

-- NOT PRINTED: function 46 (bits_TrailingZeros)

-- NOT PRINTED: function 42 (strconv_formatBits)

-- NOT PRINTED: function 37 (strconv_FormatInt)

-- NOT PRINTED: function 32 (strconv_Itoa_32)

-- NOT PRINTED: function 24 (strconv_Itoa_24)

-- NOT PRINTED: function 13 (tuner_Name)

/-! ### psalterylaw37_alive: function 4 (this session's text) -/
def psalterylaw37_alive.f : Option (Bool) := some true
theorem psalterylaw37_alive.calls (r : Bool) (w : World) (h : psalterylaw37_alive.f = some r) :
    Calls Tryd.prog 4 #[] w fun e w' => e = .returned (.bool r) ∧ Below w.heap.size w w' := by
  unfold psalterylaw37_alive.f at h
  obtain rfl := Option.some.inj h
  exact Go.Proofs.YtojlgjdebokelabDoorH.alive37_any w

/-! ### tuner_may: function 14 -/
def tuner_may.f (l0 : List Int) (a1 : Int) (a2 : Int) : Option (Int) := if (l0.length : Int) > 4096 then (some 2) else (if a2 < 1 then (some 1) else (if a2 > 4096 then (some 1) else (if a1 < 0 then (some 1) else (if a1 > a2 then (some 1) else (some 0)))))
set_option maxHeartbeats 8000000 in
set_option maxRecDepth 100000 in
theorem tuner_may.calls (A0 : Option Addr) (c0 : Nat) (l0 : List Int) (a1 : Int) (a2 : Int) (r : Int) (w : World) (hr0 : Kd.C (Kd.int .i16) w A0 l0.length l0) (hc0 : l0.length ≤ c0) (h : tuner_may.f l0 a1 a2 = some r) :
    Calls Tryd.prog 14 #[.slice A0 l0.length c0, .int .i64 a1, .int .i64 a2] w fun e w' => e = .returned (.int .i64 r) ∧ Drawn0 w w' := by
  have HR0 := Aside0.mk hr0
  have HC0 := Aside0.mk hc0
  clear hr0 hc0
  have H : (if (l0.length : Int) > 4096 then (some 2) else (if a2 < 1 then (some 1) else (if a2 > 4096 then (some 1) else (if a1 < 0 then (some 1) else (if a1 > a2 then (some 1) else (some 0)))))) = some r := h
  clear h
  by_cases c4 : (l0.length : Int) > 4096
  · rw [if_pos c4] at H
    have c4b0 : decide (4096 < (l0.length : Int)) = true := decide_eq_true c4
    have c4b1 : decide (4096 < l0.length) = true := decide_eq_true (by omega)
    clear c4
    obtain rfl := Option.some.inj H
    go_enter Tryd.func14, Tryd.ntmps14
    go_wp2
    go_ret
    exact ⟨by first | rfl | (simp; done) | (simp [*]; done), by repeat (first | exact Drawn0.refl _ | apply Drawn0.step)⟩
  · rw [if_neg c4] at H
    have c4b0 : decide (4096 < (l0.length : Int)) = false := decide_eq_false c4
    have c4b1 : decide (4096 < l0.length) = false := decide_eq_false (by omega)
    clear c4
    by_cases c5 : a2 < 1
    · rw [if_pos c5] at H
      have c5b0 : decide (a2 < 1) = true := decide_eq_true c5
      clear c5
      obtain rfl := Option.some.inj H
      go_enter Tryd.func14, Tryd.ntmps14
      go_wp2
      go_ret
      exact ⟨by first | rfl | (simp; done) | (simp [*]; done), by repeat (first | exact Drawn0.refl _ | apply Drawn0.step)⟩
    · rw [if_neg c5] at H
      have c5b0 : decide (a2 < 1) = false := decide_eq_false c5
      clear c5
      by_cases c6 : a2 > 4096
      · rw [if_pos c6] at H
        have c6b0 : decide (4096 < a2) = true := decide_eq_true c6
        clear c6
        obtain rfl := Option.some.inj H
        go_enter Tryd.func14, Tryd.ntmps14
        go_wp2
        go_ret
        exact ⟨by first | rfl | (simp; done) | (simp [*]; done), by repeat (first | exact Drawn0.refl _ | apply Drawn0.step)⟩
      · rw [if_neg c6] at H
        have c6b0 : decide (4096 < a2) = false := decide_eq_false c6
        clear c6
        by_cases c7 : a1 < 0
        · rw [if_pos c7] at H
          have c7b0 : decide (a1 < 0) = true := decide_eq_true c7
          clear c7
          obtain rfl := Option.some.inj H
          go_enter Tryd.func14, Tryd.ntmps14
          go_wp2
          go_ret
          exact ⟨by first | rfl | (simp; done) | (simp [*]; done), by repeat (first | exact Drawn0.refl _ | apply Drawn0.step)⟩
        · rw [if_neg c7] at H
          have c7b0 : decide (a1 < 0) = false := decide_eq_false c7
          clear c7
          by_cases c8 : a1 > a2
          · rw [if_pos c8] at H
            have c8b0 : decide (a2 < a1) = true := decide_eq_true c8
            clear c8
            obtain rfl := Option.some.inj H
            go_enter Tryd.func14, Tryd.ntmps14
            go_wp2
            go_ret
            exact ⟨by first | rfl | (simp; done) | (simp [*]; done), by repeat (first | exact Drawn0.refl _ | apply Drawn0.step)⟩
          · rw [if_neg c8] at H
            have c8b0 : decide (a2 < a1) = false := decide_eq_false c8
            clear c8
            obtain rfl := Option.some.inj H
            go_enter Tryd.func14, Tryd.ntmps14
            go_wp2
            go_ret
            exact ⟨by first | rfl | (simp; done) | (simp [*]; done), by repeat (first | exact Drawn0.refl _ | apply Drawn0.step)⟩

/-! ### fix_within_int: function 27 (this session's text) -/
def fix_within_int.f (a0 : Int) (a1 : Int) (a2 : Int) : Option (Int) := some (Go.Proofs.YtojlgjdebokelabDoorH.clamp a0 a1 a2)
theorem fix_within_int.calls (a0 : Int) (a1 : Int) (a2 : Int) (r : Int) (w : World) (h : fix_within_int.f a0 a1 a2 = some r) :
    Calls Tryd.prog 27 #[.int .i64 a0, .int .i64 a1, .int .i64 a2] w fun e w' => e = .returned (.int .i64 r) ∧ Drawn0 w w' := by
  unfold fix_within_int.f at h
  obtain rfl := Option.some.inj h
  exact (Go.Proofs.YtojlgjdebokelabDoorH.withinint_any a0 a1 a2 w).mono fun e w' hh => ⟨hh.1, by rw [← hh.2]; exact Drawn0.refl w⟩

/-! ### fix_Round: function 17 (this session's text) -/
def fix_Round.f (a0 : Int) (a1 : Int) : Option (Int) := if -9223372036854775808 ≤ a0 then (if a0 ≤ 9223372036854775807 then (some (Go.Proofs.YtojlgjdebokelabDoorH.rnd a0 a1)) else none) else none
theorem fix_Round.calls (a0 : Int) (a1 : Int) (r : Int) (w : World) (h : fix_Round.f a0 a1 = some r) :
    Calls Tryd.prog 17 #[.int .i64 a0, .int .i64 a1] w fun e w' => e = .returned (.int .i64 r) ∧ Drawn0 w w' := by
  unfold fix_Round.f at h
  by_cases h0 : -9223372036854775808 ≤ a0
  · rw [if_pos h0] at h
    by_cases h1 : a0 ≤ 9223372036854775807
    · rw [if_pos h1] at h
      obtain rfl := Option.some.inj h
      exact (Go.Proofs.YtojlgjdebokelabDoorH.fixround_any a0 a1 w ⟨h0, h1⟩).mono fun e w' hh => ⟨hh.1, ⟨hh.2⟩⟩
    · rw [if_neg h1] at h; cases h
  · rw [if_neg h0] at h; cases h

/-! ### wave_modulo: function 26 (this session's text) -/
def wave_modulo.f (a0 : Int) (a1 : Int) : Option (Int) := if 1 ≤ a1 then (if a1 ≤ 4194304 then (some (a0 % a1)) else none) else none
theorem wave_modulo.calls (a0 : Int) (a1 : Int) (r : Int) (w : World) (h : wave_modulo.f a0 a1 = some r) :
    Calls Tryd.prog 26 #[.int .i64 a0, .int .i64 a1] w fun e w' => e = .returned (.int .i64 r) ∧ Drawn0 w w' := by
  unfold wave_modulo.f at h
  by_cases h0 : 1 ≤ a1
  · rw [if_pos h0] at h
    by_cases h1 : a1 ≤ 4194304
    · rw [if_pos h1] at h
      obtain rfl := Option.some.inj h
      exact (Go.Proofs.YtojlgjdebokelabDoorH.modulo_any a0 a1 w h0 h1).mono fun e w' hh => ⟨hh.1, by rw [← hh.2]; exact Drawn0.refl w⟩
    · rw [if_neg h1] at h; cases h
  · rw [if_neg h0] at h; cases h

-- NOT PRINTED: function 33 (wave_height)

/-! ### fix_within_int64: function 38 (this session's text) -/
def fix_within_int64.f (a0 : Int) (a1 : Int) (a2 : Int) : Option (Int) := some (Go.Proofs.YtojlgjdebokelabDoorH.clamp a0 a1 a2)
theorem fix_within_int64.calls (a0 : Int) (a1 : Int) (a2 : Int) (r : Int) (w : World) (h : fix_within_int64.f a0 a1 a2 = some r) :
    Calls Tryd.prog 38 #[.int .i64 a0, .int .i64 a1, .int .i64 a2] w fun e w' => e = .returned (.int .i64 r) ∧ Drawn0 w w' := by
  unfold fix_within_int64.f at h
  obtain rfl := Option.some.inj h
  exact (Go.Proofs.YtojlgjdebokelabDoorH.within64_any a0 a1 a2 w).mono fun e w' hh => ⟨hh.1, by rw [← hh.2]; exact Drawn0.refl w⟩

/-! ### fix_Clip: function 34 (this session's text) -/
def fix_Clip.f (a0 : Int) (a1 : Int) (a2 : Int) : Option (Int) := some (Go.Proofs.YtojlgjdebokelabDoorH.clamp a0 a1 a2)
theorem fix_Clip.calls (a0 : Int) (a1 : Int) (a2 : Int) (r : Int) (w : World) (h : fix_Clip.f a0 a1 a2 = some r) :
    Calls Tryd.prog 34 #[.int .i64 a0, .int .i64 a1, .int .i64 a2] w fun e w' => e = .returned (.int .i64 r) ∧ Drawn0 w w' := by
  unfold fix_Clip.f at h
  obtain rfl := Option.some.inj h
  exact (Go.Proofs.YtojlgjdebokelabDoorH.clip_any a0 a1 a2 w).mono fun e w' hh => ⟨hh.1, by rw [← hh.2]; exact Drawn0.refl w⟩

/-! ### wave_sine: function 25 (this session's text) -/
def wave_sine.f (a0 : Int) (a1 : Int) : Option (Int) := if 1 ≤ a1 then (if a1 ≤ 4194304 then (some (Go.Proofs.YtojlgjdebokelabDoorH.sinv a0 a1)) else none) else none
theorem wave_sine.calls (a0 : Int) (a1 : Int) (r : Int) (w : World) (h : wave_sine.f a0 a1 = some r) :
    Calls Tryd.prog 25 #[.int .i64 a0, .int .i64 a1] w fun e w' => e = .returned (.int .i16 r) ∧ Drawn0 w w' := by
  unfold wave_sine.f at h
  by_cases h0 : 1 ≤ a1
  · rw [if_pos h0] at h
    by_cases h1 : a1 ≤ 4194304
    · rw [if_pos h1] at h
      obtain rfl := Option.some.inj h
      exact (Go.Proofs.YtojlgjdebokelabDoorH.sine_any a0 a1 w h0 h1).mono fun e w' hh => ⟨hh.1, ⟨hh.2⟩⟩
    · rw [if_neg h1] at h; cases h
  · rw [if_neg h0] at h; cases h

/-! ### wave_Cosine: function 15 -/
def wave_Cosine.j0 : Nat → Int → Int → Bool → Option (Int × Int)
  | 0, _, _, _ => none
  | k + 1, x0, x1, x11 => if x11 = true then (some (0, 1)) else ((wave_modulo.f x0 x1).bind fun t119 => ((wave_sine.f (wrap64 ((wrap64 (4 * t119)) + x1)) (wrap64 (4 * x1))).bind fun t120 => (some (t120, 0))))
def wave_Cosine.f (k : Nat) (a0 : Int) (a1 : Int) : Option (Int × Int) := if a1 < 1 then (wave_Cosine.j0 k a0 a1 true) else (wave_Cosine.j0 k a0 a1 (decide (a1 > 1048576)))
theorem wave_Cosine.mono_l : ∀ k, (∀ y0 y1 y2, LeO (wave_Cosine.j0 k y0 y1 y2) (wave_Cosine.j0 (k + 1) y0 y1 y2))
  | 0 => fun _ _ _ r h => by simp [wave_Cosine.j0] at h
  | k + 1 => by
    have ih0 := wave_Cosine.mono_l k
    · intro y0 y1 y2
      unfold wave_Cosine.j0
      repeat' first
      | (with_reducible exact ih0 _ _ _)
      | (with_reducible exact LeO.refl _)
      | (with_reducible exact LeO.none _)
      | (with_reducible refine LeO.ite ?_ ?_)
      | (with_reducible refine LeO.bind ?_ (fun _ => ?_))
      | exact ih0 _ _ _
      | exact LeO.none _
      | refine LeO.ite ?_ ?_
      | refine LeO.bind ?_ (fun _ => ?_)
theorem wave_Cosine.mono : ∀ a0 a1 k, LeO (wave_Cosine.f k a0 a1) (wave_Cosine.f (k + 1) a0 a1) := by
  intro a0 a1 k
  have ih0 := wave_Cosine.mono_l k
  unfold wave_Cosine.f
  repeat' first
      | (with_reducible exact ih0 _ _ _)
      | (with_reducible exact LeO.refl _)
      | (with_reducible exact LeO.none _)
      | (with_reducible refine LeO.ite ?_ ?_)
      | (with_reducible refine LeO.bind ?_ (fun _ => ?_))
      | exact ih0 _ _ _
      | exact LeO.none _
      | refine LeO.ite ?_ ?_
      | refine LeO.bind ?_ (fun _ => ?_)
set_option maxHeartbeats 8000000 in
set_option maxRecDepth 100000 in
theorem wave_Cosine.calls (k : Nat) (a0 : Int) (a1 : Int) (r1 : Int) (r2 : Int) (w : World) (h : wave_Cosine.f k a0 a1 = some (r1, r2)) :
    Calls Tryd.prog 15 #[.int .i64 a0, .int .i64 a1] w fun e w' => e = .returned (.tuple #[.int .i16 r1, .int .i64 r2]) ∧ Drawn0 w w' := by
  have H : (if a1 < 1 then (wave_Cosine.j0 k a0 a1 true) else (wave_Cosine.j0 k a0 a1 (decide (a1 > 1048576)))) = some (r1, r2) := h
  clear h
  have HC3 := Aside0.mk H
  clear H
  go_enter Tryd.func15, Tryd.ntmps15
  go_upto_region 1 with (fail)
  go_cut [11] (fun v11 wc => ∃ (kq : Nat) (x11_2 : Bool), v11 = .bool x11_2 ∧ Aside0 (wave_Cosine.j0 kq a0 a1 x11_2 = some (r1, r2)) ∧ Aside0 (kq ≤ k) ∧ Drawn0 w wc)
  case first =>
    have H := HC3.out
    clear HC3
    by_cases c4 : a1 < 1
    · rw [if_pos c4] at H
      have c4b0 : decide (a1 < 1) = true := decide_eq_true c4
      clear c4
      (first | rw [c4b0] | (simp only [i64_w, i32_w]; rw [c4b0]) | skip)
      have H' := Aside0.mk H
      clear H
      go_wp2
      go_meet
      case rel => exact ⟨_, (true), (by first | rfl | (simp; done) | (simp [*]; done)), H', ⟨by first | omega | exact Nat.le_refl _⟩, by repeat (first | exact Drawn0.refl _ | apply Drawn0.step)⟩
    · rw [if_neg c4] at H
      have c4b0 : decide (a1 < 1) = false := decide_eq_false c4
      clear c4
      (first | rw [c4b0] | (simp only [i64_w, i32_w]; rw [c4b0]) | skip)
      have H' := Aside0.mk H
      clear H
      go_wp2
      go_meet
      case rel => exact ⟨_, (decide (a1 > 1048576)), (by first | rfl | (simp; done) | (simp [*]; done)), H', ⟨by first | omega | exact Nat.le_refl _⟩, by repeat (first | exact Drawn0.refl _ | apply Drawn0.step)⟩
  case rest =>
    clear HC3
    try clear c1
    try clear p2
    try clear c4
    try clear c4b0
    obtain ⟨kq, x11_2, rfl, HA, HJ2, ⟨mc2, rfl⟩⟩ := hcut
    cases kq with
    | zero => exact absurd HA.out (by simp [wave_Cosine.j0])
    | succ kj2 =>
      have H := HA.out
      clear HA
      simp only [wave_Cosine.j0] at H
      by_cases c5 : x11_2 = true
      · subst c5
        have H1 : (some (0, 1)) = some (r1, r2) := by rw [if_pos rfl] at H; exact H
        clear H
        have H := H1
        clear H1
        simp only [Option.some.injEq, Prod.mk.injEq] at H
        obtain ⟨rfl, rfl⟩ := H
        go_wp2
        go_ret2
        exact ⟨by first | rfl | (simp; done) | (simp [*]; done), by repeat (first | exact Drawn0.refl _ | apply Drawn0.step)⟩
      · replace c5 := Bool.eq_false_iff.mpr c5
        subst c5
        have H1 : ((wave_modulo.f a0 a1).bind fun t119 => ((wave_sine.f (wrap64 ((wrap64 (4 * t119)) + a1)) (wrap64 (4 * a1))).bind fun t120 => (some (t120, 0)))) = some (r1, r2) := by rw [if_neg (show ¬ (false = true) by decide)] at H; exact H
        clear H
        have H := H1
        clear H1
        replace H := Option.bind_eq_some_iff.mp H
        obtain ⟨t119, A60, H⟩ := H
        replace H : ((wave_sine.f (wrap64 ((wrap64 (4 * t119)) + a1)) (wrap64 (4 * a1))).bind fun t120 => (some (t120, 0))) = some (r1, r2) := H
        have A6 := Aside0.mk A60
        clear A60
        replace H := Option.bind_eq_some_iff.mp H
        obtain ⟨t120, A70, H⟩ := H
        replace H : (some (t120, 0)) = some (r1, r2) := H
        have A7 := Aside0.mk A70
        clear A70
        simp only [Option.some.injEq, Prod.mk.injEq] at H
        obtain ⟨rfl, rfl⟩ := H
        go_wp2_with (first | ((with_reducible refine gate_callee (f := 26) rfl ?_); refine goesL_ (some 14) rfl rfl Tryd.func26 (by kernel_rfl) rfl #[.int .i64 a0, .int .i64 a1] rfl (by (try simp only [List.map_toArray, List.map_cons, List.map_nil]); first | done | rfl | (simp only [List.length_drop, List.length_take]; rfl)) ?_; (with_reducible refine (wave_modulo.calls a0 a1 t119 _ A6.out).mono ?_); rintro e w' ⟨rfl, ⟨nd, rfl⟩⟩; refine ⟨_, rfl, ?_⟩) | ((with_reducible refine gate_callee (f := 25) rfl ?_); refine goesL_ (some 20) rfl rfl Tryd.func25 (by kernel_rfl) rfl #[.int .i64 (wrap64 ((wrap64 (4 * t119)) + a1)), .int .i64 (wrap64 (4 * a1))] rfl (by (try simp only [List.map_toArray, List.map_cons, List.map_nil]); first | done | rfl | (simp only [List.length_drop, List.length_take]; rfl)) ?_; (with_reducible refine (wave_sine.calls (wrap64 ((wrap64 (4 * t119)) + a1)) (wrap64 (4 * a1)) t120 _ A7.out).mono ?_); rintro e w' ⟨rfl, ⟨nd, rfl⟩⟩; refine ⟨_, rfl, ?_⟩))
        go_ret2
        exact ⟨by first | rfl | (simp; done) | (simp [*]; done), by repeat (first | exact Drawn0.refl _ | apply Drawn0.step)⟩

/-! ### wave_Sine: function 16 -/
def wave_Sine.f (a0 : Int) (a1 : Int) : Option (Int × Int) := if a1 < 1 then (some (0, 1)) else (if a1 > 1048576 then (some (0, 1)) else ((wave_sine.f a0 a1).bind fun t121 => (some (t121, 0))))
set_option maxHeartbeats 8000000 in
set_option maxRecDepth 100000 in
theorem wave_Sine.calls (a0 : Int) (a1 : Int) (r1 : Int) (r2 : Int) (w : World) (h : wave_Sine.f a0 a1 = some (r1, r2)) :
    Calls Tryd.prog 16 #[.int .i64 a0, .int .i64 a1] w fun e w' => e = .returned (.tuple #[.int .i16 r1, .int .i64 r2]) ∧ Drawn0 w w' := by
  have H : (if a1 < 1 then (some (0, 1)) else (if a1 > 1048576 then (some (0, 1)) else ((wave_sine.f a0 a1).bind fun t121 => (some (t121, 0))))) = some (r1, r2) := h
  clear h
  by_cases c3 : a1 < 1
  · rw [if_pos c3] at H
    have c3b0 : decide (a1 < 1) = true := decide_eq_true c3
    clear c3
    simp only [Option.some.injEq, Prod.mk.injEq] at H
    obtain ⟨rfl, rfl⟩ := H
    go_enter Tryd.func16, Tryd.ntmps16
    go_wp2
    go_ret2
    exact ⟨by first | rfl | (simp; done) | (simp [*]; done), by repeat (first | exact Drawn0.refl _ | apply Drawn0.step)⟩
  · rw [if_neg c3] at H
    have c3b0 : decide (a1 < 1) = false := decide_eq_false c3
    clear c3
    by_cases c4 : a1 > 1048576
    · rw [if_pos c4] at H
      have c4b0 : decide (1048576 < a1) = true := decide_eq_true c4
      clear c4
      simp only [Option.some.injEq, Prod.mk.injEq] at H
      obtain ⟨rfl, rfl⟩ := H
      go_enter Tryd.func16, Tryd.ntmps16
      go_wp2
      go_ret2
      exact ⟨by first | rfl | (simp; done) | (simp [*]; done), by repeat (first | exact Drawn0.refl _ | apply Drawn0.step)⟩
    · rw [if_neg c4] at H
      have c4b0 : decide (1048576 < a1) = false := decide_eq_false c4
      clear c4
      replace H := Option.bind_eq_some_iff.mp H
      obtain ⟨t121, A50, H⟩ := H
      replace H : (some (t121, 0)) = some (r1, r2) := H
      have A5 := Aside0.mk A50
      clear A50
      simp only [Option.some.injEq, Prod.mk.injEq] at H
      obtain ⟨rfl, rfl⟩ := H
      go_enter Tryd.func16, Tryd.ntmps16
      go_wp2_with (first | ((with_reducible refine gate_callee (f := 25) rfl ?_); refine goesL_ (some 14) rfl rfl Tryd.func25 (by kernel_rfl) rfl #[.int .i64 a0, .int .i64 a1] rfl (by (try simp only [List.map_toArray, List.map_cons, List.map_nil]); first | done | rfl | (simp only [List.length_drop, List.length_take]; rfl)) ?_; (with_reducible refine (wave_sine.calls a0 a1 t121 _ A5.out).mono ?_); rintro e w' ⟨rfl, ⟨nd, rfl⟩⟩; refine ⟨_, rfl, ?_⟩))
      go_ret2
      exact ⟨by first | rfl | (simp; done) | (simp [*]; done), by repeat (first | exact Drawn0.refl _ | apply Drawn0.step)⟩

/-! ### tuner_Parts: function 5 -/
def tuner_Parts.l0 : Nat → Int → Int → Int → Int → List Int → Int → Int → Option (Int × Int × Int)
  | 0, _, _, _, _, _, _, _ => none
  | k + 1, x1, x2, x6, x7, x23, x24, x25 => if x25 < x24 then (if 0 ≤ x25 then (if x25 < (x23.length : Int) then ((wave_Cosine.f k (wrap64 (x25 * x1)) x2).bind fun bt124 => ((wave_Sine.f (wrap64 (x25 * x1)) x2).bind fun bt126 => (tuner_Parts.l0 k x1 x2 (wrap64 (x6 + (wrap64 ((wrap64 (rd x23 x25)) * (wrap64 (bt124.1)))))) (wrap64 (x7 + (wrap64 ((wrap64 (rd x23 x25)) * (wrap64 (bt126.1)))))) x23 x24 (wrap64 (x25 + 1))))) else (none)) else (none)) else ((fix_Round.f x6 15).bind fun t128 => ((fix_Round.f x7 15).bind fun t129 => (some (t128, t129, 0))))
def tuner_Parts.f (k : Nat) (l0 : List Int) (a1 : Int) (a2 : Int) : Option (Int × Int × Int) := (tuner_may.f l0 a1 a2).bind fun t122 => (if t122 = 0 then (tuner_Parts.l0 k a1 a2 0 0 l0 (l0.length : Int) 0) else (some (0, 0, t122)))
theorem tuner_Parts.mono_l : ∀ k, (∀ y0 y1 y2 y3 y4 y5 y6, LeO (tuner_Parts.l0 k y0 y1 y2 y3 y4 y5 y6) (tuner_Parts.l0 (k + 1) y0 y1 y2 y3 y4 y5 y6))
  | 0 => fun _ _ _ _ _ _ _ r h => by simp [tuner_Parts.l0] at h
  | k + 1 => by
    have ih0 := tuner_Parts.mono_l k
    · intro y0 y1 y2 y3 y4 y5 y6
      unfold tuner_Parts.l0
      repeat' first
      | (with_reducible exact ih0 _ _ _ _ _ _ _)
      | (with_reducible exact wave_Cosine.mono _ _ _)
      | (with_reducible exact LeO.refl _)
      | (with_reducible exact LeO.none _)
      | (with_reducible refine LeO.ite ?_ ?_)
      | (with_reducible refine LeO.bind ?_ (fun _ => ?_))
      | exact ih0 _ _ _ _ _ _ _
      | exact wave_Cosine.mono _ _ _
      | exact LeO.none _
      | refine LeO.ite ?_ ?_
      | refine LeO.bind ?_ (fun _ => ?_)
theorem tuner_Parts.mono : ∀ a0 a1 a2 k, LeO (tuner_Parts.f k a0 a1 a2) (tuner_Parts.f (k + 1) a0 a1 a2) := by
  intro a0 a1 a2 k
  have ih0 := tuner_Parts.mono_l k
  unfold tuner_Parts.f
  repeat' first
      | (with_reducible exact ih0 _ _ _ _ _ _ _)
      | (with_reducible exact wave_Cosine.mono _ _ _)
      | (with_reducible exact LeO.refl _)
      | (with_reducible exact LeO.none _)
      | (with_reducible refine LeO.ite ?_ ?_)
      | (with_reducible refine LeO.bind ?_ (fun _ => ?_))
      | exact ih0 _ _ _ _ _ _ _
      | exact wave_Cosine.mono _ _ _
      | exact LeO.none _
      | refine LeO.ite ?_ ?_
      | refine LeO.bind ?_ (fun _ => ?_)
set_option maxHeartbeats 8000000 in
set_option maxRecDepth 100000 in
theorem tuner_Parts.calls (k : Nat) (A0 : Option Addr) (c0 : Nat) (l0 : List Int) (a1 : Int) (a2 : Int) (r1 : Int) (r2 : Int) (r3 : Int) (w : World) (hr0 : Kd.C (Kd.int .i16) w A0 l0.length l0) (hc0 : l0.length ≤ c0) (h : tuner_Parts.f k l0 a1 a2 = some (r1, r2, r3)) :
    Calls Tryd.prog 5 #[.slice A0 l0.length c0, .int .i64 a1, .int .i64 a2] w fun e w' => e = .returned (.tuple #[.int .i64 r1, .int .i64 r2, .int .i64 r3]) ∧ Drawn0 w w' := by
  have HR0 := Aside0.mk hr0
  have HC0 := Aside0.mk hc0
  clear hr0 hc0
  have H : ((tuner_may.f l0 a1 a2).bind fun t122 => (if t122 = 0 then (tuner_Parts.l0 k a1 a2 0 0 l0 (l0.length : Int) 0) else (some (0, 0, t122)))) = some (r1, r2, r3) := h
  clear h
  replace H := Option.bind_eq_some_iff.mp H
  obtain ⟨t122, A40, H⟩ := H
  replace H : (if t122 = 0 then (tuner_Parts.l0 k a1 a2 0 0 l0 (l0.length : Int) 0) else (some (0, 0, t122))) = some (r1, r2, r3) := H
  have A4 := Aside0.mk A40
  clear A40
  by_cases c5 : t122 = 0
  · rw [if_pos c5] at H
    have c5b0 : (t122 == 0) = true := beq_iff_eq.mpr c5
    have c5b1 : (t122 != 0) = false := bne_eq_false_iff_eq.mpr c5
    clear c5
    have H' := Aside0.mk H
    clear H
    go_enter Tryd.func5, Tryd.ntmps5
    go_wp2_with (first | ((with_reducible refine gate_callee (f := 14) rfl ?_); refine goesL_ (some 19) rfl rfl Tryd.func14 (by kernel_rfl) rfl #[.slice A0 l0.length c0, .int .i64 a1, .int .i64 a2] rfl (by (try simp only [List.map_toArray, List.map_cons, List.map_nil]); first | done | rfl | (simp only [List.length_drop, List.length_take]; rfl)) ?_; (with_reducible refine (tuner_may.calls _ _ l0 a1 a2 t122 _ ?side1 ?side2 A4.out).mono ?_); (case side1 => repeat (first | exact HR0.out | (with_reducible refine Kd.C_alloc ?_ _) | (with_reducible refine Kd.C_drewN ?_ _) | (with_reducible refine Kd.C_drew ?_))); (case side2 => exact HC0.out); rintro e w' ⟨rfl, ⟨nd, rfl⟩⟩; refine ⟨_, rfl, ?_⟩))
    go_loopg [6, 7, 25] k (fun kq v6 v7 v25 w' => ∃ (x6_1 : Int) (x7_1 : Int) (x25_1 : Int), v6 = .int .i64 x6_1 ∧ v7 = .int .i64 x7_1 ∧ v25 = .int .i64 x25_1 ∧ Aside0 (tuner_Parts.l0 kq a1 a2 x6_1 x7_1 l0 (l0.length : Int) x25_1 = some (r1, r2, r3)) ∧ Aside0 (kq ≤ k) ∧ Drawn0 w w')
    case atStart => exact ⟨(0), (0), (0), (by first | rfl | (simp; done) | (simp [*]; done)), (by first | rfl | (simp; done) | (simp [*]; done)), (by first | rfl | (simp; done) | (simp [*]; done)), H', ⟨Nat.le_refl _⟩, by repeat (first | exact Drawn0.refl _ | apply Drawn0.step)⟩
    case round =>
      clear H'
      try clear c1
      try clear p2
      try clear c5
      try clear c5b0
      try clear c5b1
      obtain ⟨x6_1, x7_1, x25_1, rfl, rfl, rfl, HA, HK1, ⟨m1, rfl⟩⟩ := hrel
      cases gk with
      | zero => exact absurd HA.out (by simp [tuner_Parts.l0])
      | succ k1 =>
        have H := HA.out
        clear HA
        simp only [tuner_Parts.l0] at H
        by_cases c6 : x25_1 < (l0.length : Int)
        · rw [if_pos c6] at H
          have c6b0 : decide (x25_1 < (l0.length : Int)) = true := decide_eq_true c6
          clear c6
          by_cases c7 : 0 ≤ x25_1
          · rw [if_pos c7] at H
            have c7b0 : decide (0 ≤ x25_1) = true := decide_eq_true c7
            clear c7
            by_cases c8 : x25_1 < (l0.length : Int)
            · rw [if_pos c8] at H
              have c8b0 : decide (x25_1 < (l0.length : Int)) = true := decide_eq_true c8
              clear c8
              replace H := Option.bind_eq_some_iff.mp H
              obtain ⟨⟨t124, t125⟩, A90, H⟩ := H
              replace H : ((wave_Sine.f (wrap64 (x25_1 * a1)) a2).bind fun bt126 => (tuner_Parts.l0 k1 a1 a2 (wrap64 (x6_1 + (wrap64 ((wrap64 (rd l0 x25_1)) * (wrap64 (t124)))))) (wrap64 (x7_1 + (wrap64 ((wrap64 (rd l0 x25_1)) * (wrap64 (bt126.1)))))) l0 (l0.length : Int) (wrap64 (x25_1 + 1)))) = some (r1, r2, r3) := H
              have A9 := Aside0.mk A90
              clear A90
              replace H := Option.bind_eq_some_iff.mp H
              obtain ⟨⟨t126, t127⟩, A100, H⟩ := H
              replace H : (tuner_Parts.l0 k1 a1 a2 (wrap64 (x6_1 + (wrap64 ((wrap64 (rd l0 x25_1)) * (wrap64 (t124)))))) (wrap64 (x7_1 + (wrap64 ((wrap64 (rd l0 x25_1)) * (wrap64 (t126)))))) l0 (l0.length : Int) (wrap64 (x25_1 + 1))) = some (r1, r2, r3) := H
              have A10 := Aside0.mk A100
              clear A100
              have H' := Aside0.mk H
              clear H
              have p123 : 0 ≤ (x25_1 : Int) := of_decide_eq_true (by first | (with_reducible assumption) | assumption)
              have q123 : x25_1 < (l0.length : Int) := of_decide_eq_true (by first | (with_reducible assumption) | assumption)
              obtain ⟨ad123, e123, hx123_0⟩ := Kd.at_int HR0.out x25_1 p123 q123
              cases e123
              replace p123 := eq_true p123
              replace q123 := eq_true q123
              go_wp2_with (first | ((with_reducible refine gate_callee (f := 15) rfl ?_); refine goesL_ (some 35) rfl rfl Tryd.func15 (by kernel_rfl) rfl #[.int .i64 (wrap64 (x25_1 * a1)), .int .i64 a2] rfl (by (try simp only [List.map_toArray, List.map_cons, List.map_nil]); first | done | rfl | (simp only [List.length_drop, List.length_take]; rfl)) ?_; (with_reducible refine (wave_Cosine.calls k1 (wrap64 (x25_1 * a1)) a2 t124 t125 _ A9.out).mono ?_); rintro e w' ⟨rfl, ⟨nd, rfl⟩⟩; refine ⟨_, rfl, ?_⟩) | ((with_reducible refine gate_callee (f := 16) rfl ?_); refine goesL_ (some 43) rfl rfl Tryd.func16 (by kernel_rfl) rfl #[.int .i64 (wrap64 (x25_1 * a1)), .int .i64 a2] rfl (by (try simp only [List.map_toArray, List.map_cons, List.map_nil]); first | done | rfl | (simp only [List.length_drop, List.length_take]; rfl)) ?_; (with_reducible refine (wave_Sine.calls (wrap64 (x25_1 * a1)) a2 t126 t127 _ A10.out).mono ?_); rintro e w' ⟨rfl, ⟨nd, rfl⟩⟩; refine ⟨_, rfl, ?_⟩))
              go_roundg k1
              case measure => have := HK1.out; omega
              case rel => exact ⟨(wrap64 (x6_1 + (wrap64 ((wrap64 (rd l0 x25_1)) * (wrap64 (t124)))))), (wrap64 (x7_1 + (wrap64 ((wrap64 (rd l0 x25_1)) * (wrap64 (t126)))))), (wrap64 (x25_1 + 1)), (by first | rfl | (simp; done) | (simp [*]; done)), (by first | rfl | (simp; done) | (simp [*]; done)), (by first | rfl | (simp; done) | (simp [*]; done)), H', ⟨by have := HK1.out; omega⟩, by repeat (first | exact Drawn0.refl _ | apply Drawn0.step)⟩
            · rw [if_neg c8] at H
              exact absurd H (by simp)
          · rw [if_neg c7] at H
            exact absurd H (by simp)
        · rw [if_neg c6] at H
          have c6b0 : decide (x25_1 < (l0.length : Int)) = false := decide_eq_false c6
          clear c6
          replace H := Option.bind_eq_some_iff.mp H
          obtain ⟨t128, A110, H⟩ := H
          replace H : ((fix_Round.f x7_1 15).bind fun t129 => (some (t128, t129, 0))) = some (r1, r2, r3) := H
          have A11 := Aside0.mk A110
          clear A110
          replace H := Option.bind_eq_some_iff.mp H
          obtain ⟨t129, A120, H⟩ := H
          replace H : (some (t128, t129, 0)) = some (r1, r2, r3) := H
          have A12 := Aside0.mk A120
          clear A120
          simp only [Option.some.injEq, Prod.mk.injEq] at H
          obtain ⟨rfl, rfl, rfl⟩ := H
          go_wp2_with (first | ((with_reducible refine gate_callee (f := 17) rfl ?_); refine goesL_ (some 62) rfl rfl Tryd.func17 (by kernel_rfl) rfl #[.int .i64 x6_1, .int .i64 15] rfl (by (try simp only [List.map_toArray, List.map_cons, List.map_nil]); first | done | rfl | (simp only [List.length_drop, List.length_take]; rfl)) ?_; (with_reducible refine (fix_Round.calls x6_1 15 t128 _ A11.out).mono ?_); rintro e w' ⟨rfl, ⟨nd, rfl⟩⟩; refine ⟨_, rfl, ?_⟩) | ((with_reducible refine gate_callee (f := 17) rfl ?_); refine goesL_ (some 64) rfl rfl Tryd.func17 (by kernel_rfl) rfl #[.int .i64 x7_1, .int .i64 15] rfl (by (try simp only [List.map_toArray, List.map_cons, List.map_nil]); first | done | rfl | (simp only [List.length_drop, List.length_take]; rfl)) ?_; (with_reducible refine (fix_Round.calls x7_1 15 t129 _ A12.out).mono ?_); rintro e w' ⟨rfl, ⟨nd, rfl⟩⟩; refine ⟨_, rfl, ?_⟩))
          go_ret3
          exact ⟨by first | rfl | (simp; done) | (simp [*]; done), by repeat (first | exact Drawn0.refl _ | apply Drawn0.step)⟩
  · rw [if_neg c5] at H
    have c5b0 : (t122 == 0) = false := beq_eq_false_iff_ne.mpr c5
    have c5b1 : (t122 != 0) = true := bne_iff_ne.mpr c5
    simp only [Option.some.injEq, Prod.mk.injEq] at H
    obtain ⟨rfl, rfl, rfl⟩ := H
    go_enter Tryd.func5, Tryd.ntmps5
    go_wp2_with (first | ((with_reducible refine gate_callee (f := 14) rfl ?_); refine goesL_ (some 19) rfl rfl Tryd.func14 (by kernel_rfl) rfl #[.slice A0 l0.length c0, .int .i64 a1, .int .i64 a2] rfl (by (try simp only [List.map_toArray, List.map_cons, List.map_nil]); first | done | rfl | (simp only [List.length_drop, List.length_take]; rfl)) ?_; (with_reducible refine (tuner_may.calls _ _ l0 a1 a2 t122 _ ?side1 ?side2 A4.out).mono ?_); (case side1 => repeat (first | exact HR0.out | (with_reducible refine Kd.C_alloc ?_ _) | (with_reducible refine Kd.C_drewN ?_ _) | (with_reducible refine Kd.C_drew ?_))); (case side2 => exact HC0.out); rintro e w' ⟨rfl, ⟨nd, rfl⟩⟩; refine ⟨_, rfl, ?_⟩))
    go_ret3
    exact ⟨by first | rfl | (simp; done) | (simp [*]; done), by repeat (first | exact Drawn0.refl _ | apply Drawn0.step)⟩

/-! ### tuner_Power: function 6 -/
def tuner_Power.f (k : Nat) (l0 : List Int) (a1 : Int) (a2 : Int) : Option (Int × Int) := (tuner_Parts.f k l0 a1 a2).bind fun bt130 => (some (IntKind.u64.wrap (wrap64 ((wrap64 (bt130.1 * bt130.1)) + (wrap64 (bt130.2.1 * bt130.2.1)))), bt130.2.2))
theorem tuner_Power.mono : ∀ a0 a1 a2 k, LeO (tuner_Power.f k a0 a1 a2) (tuner_Power.f (k + 1) a0 a1 a2) := by
  intro a0 a1 a2 k
  unfold tuner_Power.f
  repeat' first
      | (with_reducible exact tuner_Parts.mono _ _ _ _)
      | (with_reducible exact LeO.refl _)
      | (with_reducible exact LeO.none _)
      | (with_reducible refine LeO.ite ?_ ?_)
      | (with_reducible refine LeO.bind ?_ (fun _ => ?_))
      | exact tuner_Parts.mono _ _ _ _
      | exact LeO.none _
      | refine LeO.ite ?_ ?_
      | refine LeO.bind ?_ (fun _ => ?_)
set_option maxHeartbeats 8000000 in
set_option maxRecDepth 100000 in
theorem tuner_Power.calls (k : Nat) (A0 : Option Addr) (c0 : Nat) (l0 : List Int) (a1 : Int) (a2 : Int) (r1 : Int) (r2 : Int) (w : World) (hr0 : Kd.C (Kd.int .i16) w A0 l0.length l0) (hc0 : l0.length ≤ c0) (h : tuner_Power.f k l0 a1 a2 = some (r1, r2)) :
    Calls Tryd.prog 6 #[.slice A0 l0.length c0, .int .i64 a1, .int .i64 a2] w fun e w' => e = .returned (.tuple #[.int .u64 r1, .int .i64 r2]) ∧ Drawn0 w w' := by
  have HR0 := Aside0.mk hr0
  have HC0 := Aside0.mk hc0
  clear hr0 hc0
  have H : ((tuner_Parts.f k l0 a1 a2).bind fun bt130 => (some (IntKind.u64.wrap (wrap64 ((wrap64 (bt130.1 * bt130.1)) + (wrap64 (bt130.2.1 * bt130.2.1)))), bt130.2.2))) = some (r1, r2) := h
  clear h
  replace H := Option.bind_eq_some_iff.mp H
  obtain ⟨⟨t130, t131, t132⟩, A40, H⟩ := H
  replace H : (some (IntKind.u64.wrap (wrap64 ((wrap64 (t130 * t130)) + (wrap64 (t131 * t131)))), t132)) = some (r1, r2) := H
  have A4 := Aside0.mk A40
  clear A40
  simp only [Option.some.injEq, Prod.mk.injEq] at H
  obtain ⟨rfl, rfl⟩ := H
  go_enter Tryd.func6, Tryd.ntmps6
  go_wp2_with (first | ((with_reducible refine gate_callee (f := 5) rfl ?_); refine goesL_ (some 15) rfl rfl Tryd.func5 (by kernel_rfl) rfl #[.slice A0 l0.length c0, .int .i64 a1, .int .i64 a2] rfl (by (try simp only [List.map_toArray, List.map_cons, List.map_nil]); first | done | rfl | (simp only [List.length_drop, List.length_take]; rfl)) ?_; (with_reducible refine (tuner_Parts.calls k _ _ l0 a1 a2 t130 t131 t132 _ ?side1 ?side2 A4.out).mono ?_); (case side1 => repeat (first | exact HR0.out | (with_reducible refine Kd.C_alloc ?_ _) | (with_reducible refine Kd.C_drewN ?_ _) | (with_reducible refine Kd.C_drew ?_))); (case side2 => exact HC0.out); rintro e w' ⟨rfl, ⟨nd, rfl⟩⟩; refine ⟨_, rfl, ?_⟩))
  go_ret2
  exact ⟨by first | rfl | (simp; done) | (simp [*]; done), by repeat (first | exact Drawn0.refl _ | apply Drawn0.step)⟩

/-! ### psalteryref37_May: function 7 -/
def psalteryref37_May.f (l0 : List Int) (a1 : Int) (a2 : Int) : Option (Int) := if (l0.length : Int) > 4096 then (some 2) else (if a2 < 1 then (some 1) else (if a2 > 4096 then (some 1) else (if a1 < 0 then (some 1) else (if a1 > a2 then (some 1) else (some 0)))))
set_option maxHeartbeats 8000000 in
set_option maxRecDepth 100000 in
theorem psalteryref37_May.calls (A0 : Option Addr) (c0 : Nat) (l0 : List Int) (a1 : Int) (a2 : Int) (r : Int) (w : World) (hr0 : Kd.C (Kd.int .i16) w A0 l0.length l0) (hc0 : l0.length ≤ c0) (h : psalteryref37_May.f l0 a1 a2 = some r) :
    Calls Tryd.prog 7 #[.slice A0 l0.length c0, .int .i64 a1, .int .i64 a2] w fun e w' => e = .returned (.int .i64 r) ∧ Drawn0 w w' := by
  have HR0 := Aside0.mk hr0
  have HC0 := Aside0.mk hc0
  clear hr0 hc0
  have H : (if (l0.length : Int) > 4096 then (some 2) else (if a2 < 1 then (some 1) else (if a2 > 4096 then (some 1) else (if a1 < 0 then (some 1) else (if a1 > a2 then (some 1) else (some 0)))))) = some r := h
  clear h
  by_cases c4 : (l0.length : Int) > 4096
  · rw [if_pos c4] at H
    have c4b0 : decide (4096 < (l0.length : Int)) = true := decide_eq_true c4
    have c4b1 : decide (4096 < l0.length) = true := decide_eq_true (by omega)
    clear c4
    obtain rfl := Option.some.inj H
    go_enter Tryd.func7, Tryd.ntmps7
    go_wp2
    go_ret
    exact ⟨by first | rfl | (simp; done) | (simp [*]; done), by repeat (first | exact Drawn0.refl _ | apply Drawn0.step)⟩
  · rw [if_neg c4] at H
    have c4b0 : decide (4096 < (l0.length : Int)) = false := decide_eq_false c4
    have c4b1 : decide (4096 < l0.length) = false := decide_eq_false (by omega)
    clear c4
    by_cases c5 : a2 < 1
    · rw [if_pos c5] at H
      have c5b0 : decide (a2 < 1) = true := decide_eq_true c5
      clear c5
      obtain rfl := Option.some.inj H
      go_enter Tryd.func7, Tryd.ntmps7
      go_wp2
      go_ret
      exact ⟨by first | rfl | (simp; done) | (simp [*]; done), by repeat (first | exact Drawn0.refl _ | apply Drawn0.step)⟩
    · rw [if_neg c5] at H
      have c5b0 : decide (a2 < 1) = false := decide_eq_false c5
      clear c5
      by_cases c6 : a2 > 4096
      · rw [if_pos c6] at H
        have c6b0 : decide (4096 < a2) = true := decide_eq_true c6
        clear c6
        obtain rfl := Option.some.inj H
        go_enter Tryd.func7, Tryd.ntmps7
        go_wp2
        go_ret
        exact ⟨by first | rfl | (simp; done) | (simp [*]; done), by repeat (first | exact Drawn0.refl _ | apply Drawn0.step)⟩
      · rw [if_neg c6] at H
        have c6b0 : decide (4096 < a2) = false := decide_eq_false c6
        clear c6
        by_cases c7 : a1 < 0
        · rw [if_pos c7] at H
          have c7b0 : decide (a1 < 0) = true := decide_eq_true c7
          clear c7
          obtain rfl := Option.some.inj H
          go_enter Tryd.func7, Tryd.ntmps7
          go_wp2
          go_ret
          exact ⟨by first | rfl | (simp; done) | (simp [*]; done), by repeat (first | exact Drawn0.refl _ | apply Drawn0.step)⟩
        · rw [if_neg c7] at H
          have c7b0 : decide (a1 < 0) = false := decide_eq_false c7
          clear c7
          by_cases c8 : a1 > a2
          · rw [if_pos c8] at H
            have c8b0 : decide (a2 < a1) = true := decide_eq_true c8
            clear c8
            obtain rfl := Option.some.inj H
            go_enter Tryd.func7, Tryd.ntmps7
            go_wp2
            go_ret
            exact ⟨by first | rfl | (simp; done) | (simp [*]; done), by repeat (first | exact Drawn0.refl _ | apply Drawn0.step)⟩
          · rw [if_neg c8] at H
            have c8b0 : decide (a2 < a1) = false := decide_eq_false c8
            clear c8
            obtain rfl := Option.some.inj H
            go_enter Tryd.func7, Tryd.ntmps7
            go_wp2
            go_ret
            exact ⟨by first | rfl | (simp; done) | (simp [*]; done), by repeat (first | exact Drawn0.refl _ | apply Drawn0.step)⟩

-- NOT PRINTED: function 30 (psalteryref01_down)

/-! ### psalteryref01_Round: function 19 (this session's text) -/
def psalteryref01_Round.f (a0 : Int) (a1 : Int) : Option (Int) := if -9223372036854775808 ≤ a0 then (if a0 ≤ 9223372036854775807 then (some (Go.Proofs.YtojlgjdebokelabDoorH.rnd a0 a1)) else none) else none
theorem psalteryref01_Round.calls (a0 : Int) (a1 : Int) (r : Int) (w : World) (h : psalteryref01_Round.f a0 a1 = some r) :
    Calls Tryd.prog 19 #[.int .i64 a0, .int .i64 a1] w fun e w' => e = .returned (.int .i64 r) ∧ Drawn0 w w' := by
  unfold psalteryref01_Round.f at h
  by_cases h0 : -9223372036854775808 ≤ a0
  · rw [if_pos h0] at h
    by_cases h1 : a0 ≤ 9223372036854775807
    · rw [if_pos h1] at h
      obtain rfl := Option.some.inj h
      exact (Go.Proofs.YtojlgjdebokelabDoorH.rnd_any a0 a1 w ⟨h0, h1⟩).mono fun e w' hh => ⟨hh.1, by rw [← hh.2]; exact Drawn0.refl w⟩
    · rw [if_neg h1] at h; cases h
  · rw [if_neg h0] at h; cases h

-- NOT PRINTED: function 35 (psalteryref03_part)

-- NOT PRINTED: function 29 (psalteryref03_signed)

-- NOT PRINTED: function 28 (psalteryref03_of)

/-! ### psalteryref03_Of: function 18 (this session's text) -/
def psalteryref03_Of.f (a0 : Int) (a1 : Int) : Option (Int) := if 1 ≤ a1 then (if a1 ≤ 4194304 then (if (a1 % 2 = 0 ∨ a1 ≤ 2097152) then (some (Go.Proofs.YtojlgjdebokelabDoorH.sinv a0 a1)) else none) else none) else none
theorem psalteryref03_Of.calls (a0 : Int) (a1 : Int) (r : Int) (w : World) (h : psalteryref03_Of.f a0 a1 = some r) :
    Calls Tryd.prog 18 #[.int .i64 a0, .int .i64 a1] w fun e w' => e = .returned (.int .i16 r) ∧ Drawn0 w w' := by
  unfold psalteryref03_Of.f at h
  by_cases h0 : 1 ≤ a1
  · rw [if_pos h0] at h
    by_cases h1 : a1 ≤ 4194304
    · rw [if_pos h1] at h
      by_cases h2 : (a1 % 2 = 0 ∨ a1 ≤ 2097152)
      · rw [if_pos h2] at h
        obtain rfl := Option.some.inj h
        exact (Go.Proofs.YtojlgjdebokelabDoorH.Of_any a0 a1 w h0 h1 h2).mono fun e w' hh => ⟨hh.1, by rw [← hh.2]; exact Drawn0.refl w⟩
      · rw [if_neg h2] at h; cases h
    · rw [if_neg h1] at h; cases h
  · rw [if_neg h0] at h; cases h

/-! ### psalteryref37_Parts: function 8 (this session's text) -/
def psalteryref37_Parts.f (l0 : List Int) (a1 : Int) (a2 : Int) : Option (Int × Int) := if Go.Proofs.YtojlgjdebokelabDoorH.Pok l0 a1 a2 then some (Go.Proofs.YtojlgjdebokelabDoorH.rnd (Go.Proofs.YtojlgjdebokelabDoorH.accN l0 (Go.Proofs.YtojlgjdebokelabDoorH.fcos a1 a2) l0.length) 15, Go.Proofs.YtojlgjdebokelabDoorH.rnd (Go.Proofs.YtojlgjdebokelabDoorH.accN l0 (Go.Proofs.YtojlgjdebokelabDoorH.fsin a1 a2) l0.length) 15) else none
theorem psalteryref37_Parts.calls (A0 : Option Addr) (c0 : Nat) (l0 : List Int) (a1 : Int) (a2 : Int) (r1 : Int) (r2 : Int) (w : World) (hr0 : Kd.C (Kd.int .i16) w A0 l0.length l0) (hc0 : l0.length ≤ c0) (h : psalteryref37_Parts.f l0 a1 a2 = some (r1, r2)) :
    Calls Tryd.prog 8 #[.slice A0 l0.length c0, .int .i64 a1, .int .i64 a2] w fun e w' => e = .returned (.tuple #[.int .i64 r1, .int .i64 r2]) ∧ Drawn0 w w' := by
  unfold psalteryref37_Parts.f at h
  split at h
  · rename_i hp
    simp only [Option.some.injEq, Prod.mk.injEq] at h
    obtain ⟨rfl, rfl⟩ := h
    obtain ⟨p1, p2, p3, p4, p5, p6⟩ := hp
    exact (Go.Proofs.YtojlgjdebokelabDoorH.refparts_any A0 c0 l0 a1 a2 w hr0 hc0 p1 p2 p3 p4 p5 p6).mono fun e w' hh => ⟨hh.1, ⟨hh.2⟩⟩
  · cases h

/-! ### psalteryref37_Power: function 9 -/
def psalteryref37_Power.f (l0 : List Int) (a1 : Int) (a2 : Int) : Option (Int) := (psalteryref37_Parts.f l0 a1 a2).bind fun bt133 => (some (IntKind.u64.wrap ((IntKind.u64.wrap (wrap64 (bt133.1 * bt133.1))) + (IntKind.u64.wrap (wrap64 (bt133.2 * bt133.2))))))
set_option maxHeartbeats 8000000 in
set_option maxRecDepth 100000 in
theorem psalteryref37_Power.calls (A0 : Option Addr) (c0 : Nat) (l0 : List Int) (a1 : Int) (a2 : Int) (r : Int) (w : World) (hr0 : Kd.C (Kd.int .i16) w A0 l0.length l0) (hc0 : l0.length ≤ c0) (h : psalteryref37_Power.f l0 a1 a2 = some r) :
    Calls Tryd.prog 9 #[.slice A0 l0.length c0, .int .i64 a1, .int .i64 a2] w fun e w' => e = .returned (.int .u64 r) ∧ Drawn0 w w' := by
  have HR0 := Aside0.mk hr0
  have HC0 := Aside0.mk hc0
  clear hr0 hc0
  have H : ((psalteryref37_Parts.f l0 a1 a2).bind fun bt133 => (some (IntKind.u64.wrap ((IntKind.u64.wrap (wrap64 (bt133.1 * bt133.1))) + (IntKind.u64.wrap (wrap64 (bt133.2 * bt133.2))))))) = some r := h
  clear h
  replace H := Option.bind_eq_some_iff.mp H
  obtain ⟨⟨t133, t134⟩, A40, H⟩ := H
  replace H : (some (IntKind.u64.wrap ((IntKind.u64.wrap (wrap64 (t133 * t133))) + (IntKind.u64.wrap (wrap64 (t134 * t134)))))) = some r := H
  have A4 := Aside0.mk A40
  clear A40
  obtain rfl := Option.some.inj H
  go_enter Tryd.func9, Tryd.ntmps9
  go_wp2_with (first | ((with_reducible refine gate_callee (f := 8) rfl ?_); refine goesL_ (some 13) rfl rfl Tryd.func8 (by kernel_rfl) rfl #[.slice A0 l0.length c0, .int .i64 a1, .int .i64 a2] rfl (by (try simp only [List.map_toArray, List.map_cons, List.map_nil]); first | done | rfl | (simp only [List.length_drop, List.length_take]; rfl)) ?_; (with_reducible refine (psalteryref37_Parts.calls _ _ l0 a1 a2 t133 t134 _ ?side1 ?side2 A4.out).mono ?_); (case side1 => repeat (first | exact HR0.out | (with_reducible refine Kd.C_alloc ?_ _) | (with_reducible refine Kd.C_drewN ?_ _) | (with_reducible refine Kd.C_drew ?_))); (case side2 => exact HC0.out); rintro e w' ⟨rfl, ⟨nd, rfl⟩⟩; refine ⟨_, rfl, ?_⟩))
  go_ret
  exact ⟨by first | rfl | (simp; done) | (simp [*]; done), by repeat (first | exact Drawn0.refl _ | apply Drawn0.step)⟩

/-! ### tuner_Strongest: function 10 -/
def tuner_Strongest.l0 : Nat → List Int → Int → Int → Int → Int → Option (Int × Int)
  | 0, _, _, _, _, _ => none
  | k + 1, x0, x1, x7, x8, x9 => if x9 ≤ (wrap64 (Int.tdiv x1 2)) then ((tuner_Power.f k x0 x9 x1).bind fun bt136 => (if x7 = 0 then (tuner_Strongest.l0 k x0 x1 x9 bt136.1 (wrap64 (x9 + 1))) else (if bt136.1 > x8 then (tuner_Strongest.l0 k x0 x1 x9 bt136.1 (wrap64 (x9 + 1))) else (tuner_Strongest.l0 k x0 x1 x7 x8 (wrap64 (x9 + 1)))))) else (some (x7, 0))
def tuner_Strongest.f (k : Nat) (l0 : List Int) (a1 : Int) : Option (Int × Int) := (tuner_may.f l0 0 a1).bind fun t135 => (if t135 = 0 then (tuner_Strongest.l0 k l0 a1 0 0 1) else (some (0, t135)))
theorem tuner_Strongest.mono_l : ∀ k, (∀ y0 y1 y2 y3 y4, LeO (tuner_Strongest.l0 k y0 y1 y2 y3 y4) (tuner_Strongest.l0 (k + 1) y0 y1 y2 y3 y4))
  | 0 => fun _ _ _ _ _ r h => by simp [tuner_Strongest.l0] at h
  | k + 1 => by
    have ih0 := tuner_Strongest.mono_l k
    · intro y0 y1 y2 y3 y4
      unfold tuner_Strongest.l0
      repeat' first
      | (with_reducible exact ih0 _ _ _ _ _)
      | (with_reducible exact tuner_Power.mono _ _ _ _)
      | (with_reducible exact LeO.refl _)
      | (with_reducible exact LeO.none _)
      | (with_reducible refine LeO.ite ?_ ?_)
      | (with_reducible refine LeO.bind ?_ (fun _ => ?_))
      | exact ih0 _ _ _ _ _
      | exact tuner_Power.mono _ _ _ _
      | exact LeO.none _
      | refine LeO.ite ?_ ?_
      | refine LeO.bind ?_ (fun _ => ?_)
theorem tuner_Strongest.mono : ∀ a0 a1 k, LeO (tuner_Strongest.f k a0 a1) (tuner_Strongest.f (k + 1) a0 a1) := by
  intro a0 a1 k
  have ih0 := tuner_Strongest.mono_l k
  unfold tuner_Strongest.f
  repeat' first
      | (with_reducible exact ih0 _ _ _ _ _)
      | (with_reducible exact tuner_Power.mono _ _ _ _)
      | (with_reducible exact LeO.refl _)
      | (with_reducible exact LeO.none _)
      | (with_reducible refine LeO.ite ?_ ?_)
      | (with_reducible refine LeO.bind ?_ (fun _ => ?_))
      | exact ih0 _ _ _ _ _
      | exact tuner_Power.mono _ _ _ _
      | exact LeO.none _
      | refine LeO.ite ?_ ?_
      | refine LeO.bind ?_ (fun _ => ?_)
set_option maxHeartbeats 8000000 in
set_option maxRecDepth 100000 in
theorem tuner_Strongest.calls (k : Nat) (A0 : Option Addr) (c0 : Nat) (l0 : List Int) (a1 : Int) (r1 : Int) (r2 : Int) (w : World) (hr0 : Kd.C (Kd.int .i16) w A0 l0.length l0) (hc0 : l0.length ≤ c0) (h : tuner_Strongest.f k l0 a1 = some (r1, r2)) :
    Calls Tryd.prog 10 #[.slice A0 l0.length c0, .int .i64 a1] w fun e w' => e = .returned (.tuple #[.int .i64 r1, .int .i64 r2]) ∧ Drawn0 w w' := by
  have HR0 := Aside0.mk hr0
  have HC0 := Aside0.mk hc0
  clear hr0 hc0
  have H : ((tuner_may.f l0 0 a1).bind fun t135 => (if t135 = 0 then (tuner_Strongest.l0 k l0 a1 0 0 1) else (some (0, t135)))) = some (r1, r2) := h
  clear h
  replace H := Option.bind_eq_some_iff.mp H
  obtain ⟨t135, A30, H⟩ := H
  replace H : (if t135 = 0 then (tuner_Strongest.l0 k l0 a1 0 0 1) else (some (0, t135))) = some (r1, r2) := H
  have A3 := Aside0.mk A30
  clear A30
  by_cases c4 : t135 = 0
  · rw [if_pos c4] at H
    have c4b0 : (t135 == 0) = true := beq_iff_eq.mpr c4
    have c4b1 : (t135 != 0) = false := bne_eq_false_iff_eq.mpr c4
    clear c4
    have H' := Aside0.mk H
    clear H
    go_enter Tryd.func10, Tryd.ntmps10
    go_wp2_with (first | ((with_reducible refine gate_callee (f := 14) rfl ?_); refine goesL_ (some 14) rfl rfl Tryd.func14 (by kernel_rfl) rfl #[.slice A0 l0.length c0, .int .i64 0, .int .i64 a1] rfl (by (try simp only [List.map_toArray, List.map_cons, List.map_nil]); first | done | rfl | (simp only [List.length_drop, List.length_take]; rfl)) ?_; (with_reducible refine (tuner_may.calls _ _ l0 0 a1 t135 _ ?side1 ?side2 A3.out).mono ?_); (case side1 => repeat (first | exact HR0.out | (with_reducible refine Kd.C_alloc ?_ _) | (with_reducible refine Kd.C_drewN ?_ _) | (with_reducible refine Kd.C_drew ?_))); (case side2 => exact HC0.out); rintro e w' ⟨rfl, ⟨nd, rfl⟩⟩; refine ⟨_, rfl, ?_⟩))
    go_loopg [7, 8, 9] k (fun kq v7 v8 v9 w' => ∃ (x7_1 : Int) (x8_1 : Int) (x9_1 : Int), v7 = .int .i64 x7_1 ∧ v8 = .int .u64 x8_1 ∧ v9 = .int .i64 x9_1 ∧ Aside0 (tuner_Strongest.l0 kq l0 a1 x7_1 x8_1 x9_1 = some (r1, r2)) ∧ Aside0 (kq ≤ k) ∧ Drawn0 w w')
    case atStart => exact ⟨(0), (0), (1), (by first | rfl | (simp; done) | (simp [*]; done)), (by first | rfl | (simp; done) | (simp [*]; done)), (by first | rfl | (simp; done) | (simp [*]; done)), H', ⟨Nat.le_refl _⟩, by repeat (first | exact Drawn0.refl _ | apply Drawn0.step)⟩
    case round =>
      clear H'
      try clear c1
      try clear p2
      try clear c4
      try clear c4b0
      try clear c4b1
      obtain ⟨x7_1, x8_1, x9_1, rfl, rfl, rfl, HA, HK1, ⟨m1, rfl⟩⟩ := hrel
      cases gk with
      | zero => exact absurd HA.out (by simp [tuner_Strongest.l0])
      | succ k1 =>
        have H := HA.out
        clear HA
        simp only [tuner_Strongest.l0] at H
        by_cases c5 : x9_1 ≤ (wrap64 (Int.tdiv a1 2))
        · rw [if_pos c5] at H
          have c5b0 : decide (x9_1 ≤ (wrap64 (Int.tdiv a1 2))) = true := decide_eq_true c5
          clear c5
          replace H := Option.bind_eq_some_iff.mp H
          obtain ⟨⟨t136, t137⟩, A60, H⟩ := H
          replace H : (if x7_1 = 0 then (tuner_Strongest.l0 k1 l0 a1 x9_1 t136 (wrap64 (x9_1 + 1))) else (if t136 > x8_1 then (tuner_Strongest.l0 k1 l0 a1 x9_1 t136 (wrap64 (x9_1 + 1))) else (tuner_Strongest.l0 k1 l0 a1 x7_1 x8_1 (wrap64 (x9_1 + 1))))) = some (r1, r2) := H
          have A6 := Aside0.mk A60
          clear A60
          by_cases c7 : x7_1 = 0
          · rw [if_pos c7] at H
            have c7b0 : (x7_1 == 0) = true := beq_iff_eq.mpr c7
            have c7b1 : (x7_1 != 0) = false := bne_eq_false_iff_eq.mpr c7
            clear c7
            have H' := Aside0.mk H
            clear H
            go_wp2_with (first | ((with_reducible refine gate_callee (f := 6) rfl ?_); refine goesL_ (some 28) rfl rfl Tryd.func6 (by kernel_rfl) rfl #[.slice A0 l0.length c0, .int .i64 x9_1, .int .i64 a1] rfl (by (try simp only [List.map_toArray, List.map_cons, List.map_nil]); first | done | rfl | (simp only [List.length_drop, List.length_take]; rfl)) ?_; (with_reducible refine (tuner_Power.calls k1 _ _ l0 x9_1 a1 t136 t137 _ ?side1 ?side2 A6.out).mono ?_); (case side1 => repeat (first | exact HR0.out | (with_reducible refine Kd.C_alloc ?_ _) | (with_reducible refine Kd.C_drewN ?_ _) | (with_reducible refine Kd.C_drew ?_))); (case side2 => exact HC0.out); rintro e w' ⟨rfl, ⟨nd, rfl⟩⟩; refine ⟨_, rfl, ?_⟩))
            go_roundg k1
            case measure => have := HK1.out; omega
            case rel => exact ⟨(x9_1), (t136), (wrap64 (x9_1 + 1)), (by first | rfl | (simp; done) | (simp [*]; done)), (by first | rfl | (simp; done) | (simp [*]; done)), (by first | rfl | (simp; done) | (simp [*]; done)), H', ⟨by have := HK1.out; omega⟩, by repeat (first | exact Drawn0.refl _ | apply Drawn0.step)⟩
          · rw [if_neg c7] at H
            have c7b0 : (x7_1 == 0) = false := beq_eq_false_iff_ne.mpr c7
            have c7b1 : (x7_1 != 0) = true := bne_iff_ne.mpr c7
            by_cases c8 : t136 > x8_1
            · rw [if_pos c8] at H
              have c8b0 : decide (x8_1 < t136) = true := decide_eq_true c8
              clear c8
              have H' := Aside0.mk H
              clear H
              go_wp2_with (first | ((with_reducible refine gate_callee (f := 6) rfl ?_); refine goesL_ (some 28) rfl rfl Tryd.func6 (by kernel_rfl) rfl #[.slice A0 l0.length c0, .int .i64 x9_1, .int .i64 a1] rfl (by (try simp only [List.map_toArray, List.map_cons, List.map_nil]); first | done | rfl | (simp only [List.length_drop, List.length_take]; rfl)) ?_; (with_reducible refine (tuner_Power.calls k1 _ _ l0 x9_1 a1 t136 t137 _ ?side1 ?side2 A6.out).mono ?_); (case side1 => repeat (first | exact HR0.out | (with_reducible refine Kd.C_alloc ?_ _) | (with_reducible refine Kd.C_drewN ?_ _) | (with_reducible refine Kd.C_drew ?_))); (case side2 => exact HC0.out); rintro e w' ⟨rfl, ⟨nd, rfl⟩⟩; refine ⟨_, rfl, ?_⟩))
              go_roundg k1
              case measure => have := HK1.out; omega
              case rel => exact ⟨(x9_1), (t136), (wrap64 (x9_1 + 1)), (by first | rfl | (simp; done) | (simp [*]; done)), (by first | rfl | (simp; done) | (simp [*]; done)), (by first | rfl | (simp; done) | (simp [*]; done)), H', ⟨by have := HK1.out; omega⟩, by repeat (first | exact Drawn0.refl _ | apply Drawn0.step)⟩
            · rw [if_neg c8] at H
              have c8b0 : decide (x8_1 < t136) = false := decide_eq_false c8
              clear c8
              have H' := Aside0.mk H
              clear H
              go_wp2_with (first | ((with_reducible refine gate_callee (f := 6) rfl ?_); refine goesL_ (some 28) rfl rfl Tryd.func6 (by kernel_rfl) rfl #[.slice A0 l0.length c0, .int .i64 x9_1, .int .i64 a1] rfl (by (try simp only [List.map_toArray, List.map_cons, List.map_nil]); first | done | rfl | (simp only [List.length_drop, List.length_take]; rfl)) ?_; (with_reducible refine (tuner_Power.calls k1 _ _ l0 x9_1 a1 t136 t137 _ ?side1 ?side2 A6.out).mono ?_); (case side1 => repeat (first | exact HR0.out | (with_reducible refine Kd.C_alloc ?_ _) | (with_reducible refine Kd.C_drewN ?_ _) | (with_reducible refine Kd.C_drew ?_))); (case side2 => exact HC0.out); rintro e w' ⟨rfl, ⟨nd, rfl⟩⟩; refine ⟨_, rfl, ?_⟩))
              go_roundg k1
              case measure => have := HK1.out; omega
              case rel => exact ⟨(x7_1), (x8_1), (wrap64 (x9_1 + 1)), (by first | rfl | (simp; done) | (simp [*]; done)), (by first | rfl | (simp; done) | (simp [*]; done)), (by first | rfl | (simp; done) | (simp [*]; done)), H', ⟨by have := HK1.out; omega⟩, by repeat (first | exact Drawn0.refl _ | apply Drawn0.step)⟩
        · rw [if_neg c5] at H
          have c5b0 : decide (x9_1 ≤ (wrap64 (Int.tdiv a1 2))) = false := decide_eq_false c5
          clear c5
          simp only [Option.some.injEq, Prod.mk.injEq] at H
          obtain ⟨rfl, rfl⟩ := H
          go_wp2
          go_ret2
          exact ⟨by first | rfl | (simp; done) | (simp [*]; done), by repeat (first | exact Drawn0.refl _ | apply Drawn0.step)⟩
  · rw [if_neg c4] at H
    have c4b0 : (t135 == 0) = false := beq_eq_false_iff_ne.mpr c4
    have c4b1 : (t135 != 0) = true := bne_iff_ne.mpr c4
    simp only [Option.some.injEq, Prod.mk.injEq] at H
    obtain ⟨rfl, rfl⟩ := H
    go_enter Tryd.func10, Tryd.ntmps10
    go_wp2_with (first | ((with_reducible refine gate_callee (f := 14) rfl ?_); refine goesL_ (some 14) rfl rfl Tryd.func14 (by kernel_rfl) rfl #[.slice A0 l0.length c0, .int .i64 0, .int .i64 a1] rfl (by (try simp only [List.map_toArray, List.map_cons, List.map_nil]); first | done | rfl | (simp only [List.length_drop, List.length_take]; rfl)) ?_; (with_reducible refine (tuner_may.calls _ _ l0 0 a1 t135 _ ?side1 ?side2 A3.out).mono ?_); (case side1 => repeat (first | exact HR0.out | (with_reducible refine Kd.C_alloc ?_ _) | (with_reducible refine Kd.C_drewN ?_ _) | (with_reducible refine Kd.C_drew ?_))); (case side2 => exact HC0.out); rintro e w' ⟨rfl, ⟨nd, rfl⟩⟩; refine ⟨_, rfl, ?_⟩))
    go_ret2
    exact ⟨by first | rfl | (simp; done) | (simp [*]; done), by repeat (first | exact Drawn0.refl _ | apply Drawn0.step)⟩

end Go.Proofs.YtojlgjdebokelabDoor.PTunerParts
