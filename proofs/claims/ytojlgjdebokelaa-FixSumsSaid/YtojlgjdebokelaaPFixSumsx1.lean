-- Written by wip/myprint.py, a program of this session's, over the kit's print and this session's given texts. Not trusted: Lean checks it.
import Derived.Test.YtojlgjdebokelaaPFixSumsx0
namespace Go.Proofs.Ytojlgjdebokelaa.PFixSums
open Go.RowKit Go.Proofs.YtojlgjdebokelaaW.PrintWords Go.Proofs.YtojlgjdebokelaaW.PrintLast Go.Proofs.YtojlgjdebokelaaW.PrintMore
attribute [local go_sem] max2_int min2_int max_two min_two max_three min_three max_four min_four   -- for this text's walks alone
set_option linter.unusedVariables false
set_option linter.unusedSimpArgs false

/-! ### fix_within_int: function 65 (this session's text) -/
def fix_within_int.f (a0 : Int) (a1 : Int) (a2 : Int) : Option (Int) := some (Go.Proofs.YtojlgjdebokelaaH.clamp a0 a1 a2)
theorem fix_within_int.calls (a0 : Int) (a1 : Int) (a2 : Int) (r : Int) (w : World) (h : fix_within_int.f a0 a1 a2 = some r) :
    Calls Try.prog 65 #[.int .i64 a0, .int .i64 a1, .int .i64 a2] w fun e w' => e = .returned (.int .i64 r) ∧ Drawn0 w w' := by
  unfold fix_within_int.f at h
  obtain rfl := Option.some.inj h
  exact (Go.Proofs.YtojlgjdebokelaaH.withinint_any a0 a1 a2 w).mono fun e w' hh => ⟨hh.1, by rw [← hh.2]; exact Drawn0.refl w⟩

/-! ### fix_Round: function 46 (this session's text) -/
def fix_Round.f (a0 : Int) (a1 : Int) : Option (Int) := if -9223372036854775808 ≤ a0 then (if a0 ≤ 9223372036854775807 then (some (Go.Proofs.YtojlgjdebokelaaH.rnd a0 a1)) else none) else none
theorem fix_Round.calls (a0 : Int) (a1 : Int) (r : Int) (w : World) (h : fix_Round.f a0 a1 = some r) :
    Calls Try.prog 46 #[.int .i64 a0, .int .i64 a1] w fun e w' => e = .returned (.int .i64 r) ∧ Drawn0 w w' := by
  unfold fix_Round.f at h
  by_cases h0 : -9223372036854775808 ≤ a0
  · rw [if_pos h0] at h
    by_cases h1 : a0 ≤ 9223372036854775807
    · rw [if_pos h1] at h
      obtain rfl := Option.some.inj h
      exact (Go.Proofs.YtojlgjdebokelaaH.fixround_any a0 a1 w ⟨h0, h1⟩).mono fun e w' hh => ⟨hh.1, ⟨hh.2⟩⟩
    · rw [if_neg h1] at h; cases h
  · rw [if_neg h0] at h; cases h

/-! ### fix_within_int64: function 66 (this session's text) -/
def fix_within_int64.f (a0 : Int) (a1 : Int) (a2 : Int) : Option (Int) := some (Go.Proofs.YtojlgjdebokelaaH.clamp a0 a1 a2)
theorem fix_within_int64.calls (a0 : Int) (a1 : Int) (a2 : Int) (r : Int) (w : World) (h : fix_within_int64.f a0 a1 a2 = some r) :
    Calls Try.prog 66 #[.int .i64 a0, .int .i64 a1, .int .i64 a2] w fun e w' => e = .returned (.int .i64 r) ∧ Drawn0 w w' := by
  unfold fix_within_int64.f at h
  obtain rfl := Option.some.inj h
  exact (Go.Proofs.YtojlgjdebokelaaH.within64_any a0 a1 a2 w).mono fun e w' hh => ⟨hh.1, by rw [← hh.2]; exact Drawn0.refl w⟩

/-! ### fix_Sat32: function 47 (this session's text) -/
def fix_Sat32.f (a0 : Int) : Option (Int) := some (Go.Proofs.YtojlgjdebokelaaH.clamp a0 (-2147483648) 2147483647)
theorem fix_Sat32.calls (a0 : Int) (r : Int) (w : World) (h : fix_Sat32.f a0 = some r) :
    Calls Try.prog 47 #[.int .i64 a0] w fun e w' => e = .returned (.int .i32 r) ∧ Drawn0 w w' := by
  unfold fix_Sat32.f at h
  obtain rfl := Option.some.inj h
  exact (Go.Proofs.YtojlgjdebokelaaH.sat32_any a0 w).mono fun e w' hh => ⟨hh.1, by rw [← hh.2]; exact Drawn0.refl w⟩

/-! ### fix_Mul31: function 16 -/
def fix_Mul31.f (a0 : Int) (a1 : Int) : Option (Int) := (fix_Round.f (wrap64 ((wrap64 (a0)) * (wrap64 (a1)))) 31).bind fun t101 => ((fix_Sat32.f t101).bind fun t102 => (some t102))
set_option maxHeartbeats 8000000 in
set_option maxRecDepth 100000 in
theorem fix_Mul31.calls (a0 : Int) (a1 : Int) (r : Int) (w : World) (h : fix_Mul31.f a0 a1 = some r) :
    Calls Try.prog 16 #[.int .i32 a0, .int .i32 a1] w fun e w' => e = .returned (.int .i32 r) ∧ Drawn0 w w' := by
  have H : ((fix_Round.f (wrap64 ((wrap64 (a0)) * (wrap64 (a1)))) 31).bind fun t101 => ((fix_Sat32.f t101).bind fun t102 => (some t102))) = some r := h
  clear h
  replace H := Option.bind_eq_some_iff.mp H
  obtain ⟨t101, A30, H⟩ := H
  replace H : ((fix_Sat32.f t101).bind fun t102 => (some t102)) = some r := H
  have A3 := Aside0.mk A30
  clear A30
  replace H := Option.bind_eq_some_iff.mp H
  obtain ⟨t102, A40, H⟩ := H
  replace H : (some t102) = some r := H
  have A4 := Aside0.mk A40
  clear A40
  obtain rfl := Option.some.inj H
  go_enter Try.func16, Try.ntmps16
  go_wp2_with (first | ((with_reducible refine gate_callee (f := 46) rfl ?_); refine goesL_ (some 10) rfl rfl Try.func46 (by kernel_rfl) rfl #[.int .i64 (wrap64 ((wrap64 (a0)) * (wrap64 (a1)))), .int .i64 31] rfl (by (try simp only [List.map_toArray, List.map_cons, List.map_nil]); first | done | rfl | (simp only [List.length_drop, List.length_take]; rfl)) ?_; (with_reducible refine (fix_Round.calls (wrap64 ((wrap64 (a0)) * (wrap64 (a1)))) 31 t101 _ A3.out).mono ?_); rintro e w' ⟨rfl, ⟨nd, rfl⟩⟩; refine ⟨_, rfl, ?_⟩) | ((with_reducible refine gate_callee (f := 47) rfl ?_); refine goesL_ (some 11) rfl rfl Try.func47 (by kernel_rfl) rfl #[.int .i64 t101] rfl (by (try simp only [List.map_toArray, List.map_cons, List.map_nil]); first | done | rfl | (simp only [List.length_drop, List.length_take]; rfl)) ?_; (with_reducible refine (fix_Sat32.calls t101 t102 _ A4.out).mono ?_); rintro e w' ⟨rfl, ⟨nd, rfl⟩⟩; refine ⟨_, rfl, ?_⟩))
  go_ret
  exact ⟨by first | rfl | (simp; done) | (simp [*]; done), by repeat (first | exact Drawn0.refl _ | apply Drawn0.step)⟩

/-! ### bits_Len32: function 68 (this session's text) -/
def bits_Len32.f (a0 : Int) : Option (Int) := if 0 ≤ a0 then (if a0 ≤ 4294967295 then (some (((Lib.bitLen a0.toNat : Nat) : Int))) else none) else none
theorem bits_Len32.calls (a0 : Int) (r : Int) (w : World) (h : bits_Len32.f a0 = some r) :
    Calls Try.prog 68 #[.int .u32 a0] w fun e w' => e = .returned (.int .i64 r) ∧ Drawn0 w w' := by
  unfold bits_Len32.f at h
  by_cases h0 : 0 ≤ a0
  · rw [if_pos h0] at h
    by_cases h1 : a0 ≤ 4294967295
    · rw [if_pos h1] at h
      obtain rfl := Option.some.inj h
      exact (Go.Proofs.YtojlgjdebokelaaH.len32_any a0 w h0 h1).mono fun e w' hh => ⟨hh.1, by rw [← hh.2]; exact Drawn0.refl w⟩
    · rw [if_neg h1] at h; cases h
  · rw [if_neg h0] at h; cases h

/-! ### bits_LeadingZeros32: function 49 -/
def bits_LeadingZeros32.f (a0 : Int) : Option (Int) := (bits_Len32.f a0).bind fun t103 => (some (wrap64 (32 - t103)))
set_option maxHeartbeats 8000000 in
set_option maxRecDepth 100000 in
theorem bits_LeadingZeros32.calls (a0 : Int) (r : Int) (w : World) (h : bits_LeadingZeros32.f a0 = some r) :
    Calls Try.prog 49 #[.int .u32 a0] w fun e w' => e = .returned (.int .i64 r) ∧ Drawn0 w w' := by
  have H : ((bits_Len32.f a0).bind fun t103 => (some (wrap64 (32 - t103)))) = some r := h
  clear h
  replace H := Option.bind_eq_some_iff.mp H
  obtain ⟨t103, A20, H⟩ := H
  replace H : (some (wrap64 (32 - t103))) = some r := H
  have A2 := Aside0.mk A20
  clear A20
  obtain rfl := Option.some.inj H
  go_enter Try.func49, Try.ntmps49
  go_wp2_with (first | ((with_reducible refine gate_callee (f := 68) rfl ?_); refine goesL_ (some 4) rfl rfl Try.func68 (by kernel_rfl) rfl #[.int .u32 a0] rfl (by (try simp only [List.map_toArray, List.map_cons, List.map_nil]); first | done | rfl | (simp only [List.length_drop, List.length_take]; rfl)) ?_; (with_reducible refine (bits_Len32.calls a0 t103 _ A2.out).mono ?_); rintro e w' ⟨rfl, ⟨nd, rfl⟩⟩; refine ⟨_, rfl, ?_⟩))
  go_ret
  exact ⟨by first | rfl | (simp; done) | (simp [*]; done), by repeat (first | exact Drawn0.refl _ | apply Drawn0.step)⟩

/-! ### fix_Spare: function 17 -/
def fix_Spare.f (a0 : Int) : Option (Int) := if a0 = 0 then (some 31) else ((bits_LeadingZeros32.f ((Go.bits .xor .i32 a0 (a0 / 2147483648)) % 4294967296)).bind fun t104 => (some (wrap64 (t104 - 1))))
set_option maxHeartbeats 8000000 in
set_option maxRecDepth 100000 in
theorem fix_Spare.calls (a0 : Int) (r : Int) (w : World) (h : fix_Spare.f a0 = some r) :
    Calls Try.prog 17 #[.int .i32 a0] w fun e w' => e = .returned (.int .i64 r) ∧ Drawn0 w w' := by
  have H : (if a0 = 0 then (some 31) else ((bits_LeadingZeros32.f ((Go.bits .xor .i32 a0 (a0 / 2147483648)) % 4294967296)).bind fun t104 => (some (wrap64 (t104 - 1))))) = some r := h
  clear h
  by_cases c2 : a0 = 0
  · rw [if_pos c2] at H
    have c2b0 : (a0 == 0) = true := beq_iff_eq.mpr c2
    have c2b1 : (a0 != 0) = false := bne_eq_false_iff_eq.mpr c2
    clear c2
    obtain rfl := Option.some.inj H
    go_enter Try.func17, Try.ntmps17
    go_wp2
    go_ret
    exact ⟨by first | rfl | (simp; done) | (simp [*]; done), by repeat (first | exact Drawn0.refl _ | apply Drawn0.step)⟩
  · rw [if_neg c2] at H
    have c2b0 : (a0 == 0) = false := beq_eq_false_iff_ne.mpr c2
    have c2b1 : (a0 != 0) = true := bne_iff_ne.mpr c2
    replace H := Option.bind_eq_some_iff.mp H
    obtain ⟨t104, A30, H⟩ := H
    replace H : (some (wrap64 (t104 - 1))) = some r := H
    have A3 := Aside0.mk A30
    clear A30
    obtain rfl := Option.some.inj H
    go_enter Try.func17, Try.ntmps17
    go_wp2_with (first | ((with_reducible refine gate_callee (f := 49) rfl ?_); refine goesL_ (some 10) rfl rfl Try.func49 (by kernel_rfl) rfl #[.int .u32 ((Go.bits .xor .i32 a0 (a0 / 2147483648)) % 4294967296)] rfl (by (try simp only [List.map_toArray, List.map_cons, List.map_nil]); first | done | rfl | (simp only [List.length_drop, List.length_take]; rfl)) ?_; (with_reducible refine (bits_LeadingZeros32.calls ((Go.bits .xor .i32 a0 (a0 / 2147483648)) % 4294967296) t104 _ A3.out).mono ?_); rintro e w' ⟨rfl, ⟨nd, rfl⟩⟩; refine ⟨_, rfl, ?_⟩))
    go_ret
    exact ⟨by first | rfl | (simp; done) | (simp [*]; done), by repeat (first | exact Drawn0.refl _ | apply Drawn0.step)⟩

/-! ### psalterylaw01_alive: function 10 -/
def psalterylaw01_alive.f  : Option (Bool) := (fix_Round.f 3 1).bind fun t105 => (if t105 = 2 then ((fix_Round.f (-3) 1).bind fun t106 => (if t106 = (-1) then ((fix_Mul31.f (-2147483648) (-2147483648)).bind fun t107 => (if t107 = 2147483647 then ((fix_Spare.f 1).bind fun t108 => (some (t108 == 30))) else (some false))) else (some false))) else (some false))
set_option maxHeartbeats 8000000 in
set_option maxRecDepth 100000 in
theorem psalterylaw01_alive.calls  (r : Bool) (w : World) (h : psalterylaw01_alive.f  = some r) :
    Calls Try.prog 10 #[] w fun e w' => e = .returned (.bool r) ∧ Drawn0 w w' := by
  have H : ((fix_Round.f 3 1).bind fun t105 => (if t105 = 2 then ((fix_Round.f (-3) 1).bind fun t106 => (if t106 = (-1) then ((fix_Mul31.f (-2147483648) (-2147483648)).bind fun t107 => (if t107 = 2147483647 then ((fix_Spare.f 1).bind fun t108 => (some (t108 == 30))) else (some false))) else (some false))) else (some false))) = some r := h
  clear h
  replace H := Option.bind_eq_some_iff.mp H
  obtain ⟨t105, A10, H⟩ := H
  replace H : (if t105 = 2 then ((fix_Round.f (-3) 1).bind fun t106 => (if t106 = (-1) then ((fix_Mul31.f (-2147483648) (-2147483648)).bind fun t107 => (if t107 = 2147483647 then ((fix_Spare.f 1).bind fun t108 => (some (t108 == 30))) else (some false))) else (some false))) else (some false)) = some r := H
  have A1 := Aside0.mk A10
  clear A10
  by_cases c2 : t105 = 2
  · rw [if_pos c2] at H
    have c2b0 : (t105 == 2) = true := beq_iff_eq.mpr c2
    have c2b1 : (t105 != 2) = false := bne_eq_false_iff_eq.mpr c2
    clear c2
    replace H := Option.bind_eq_some_iff.mp H
    obtain ⟨t106, A30, H⟩ := H
    replace H : (if t106 = (-1) then ((fix_Mul31.f (-2147483648) (-2147483648)).bind fun t107 => (if t107 = 2147483647 then ((fix_Spare.f 1).bind fun t108 => (some (t108 == 30))) else (some false))) else (some false)) = some r := H
    have A3 := Aside0.mk A30
    clear A30
    by_cases c4 : t106 = (-1)
    · rw [if_pos c4] at H
      have c4b0 : (t106 == (-1)) = true := beq_iff_eq.mpr c4
      have c4b1 : (t106 != (-1)) = false := bne_eq_false_iff_eq.mpr c4
      clear c4
      replace H := Option.bind_eq_some_iff.mp H
      obtain ⟨t107, A50, H⟩ := H
      replace H : (if t107 = 2147483647 then ((fix_Spare.f 1).bind fun t108 => (some (t108 == 30))) else (some false)) = some r := H
      have A5 := Aside0.mk A50
      clear A50
      by_cases c6 : t107 = 2147483647
      · rw [if_pos c6] at H
        have c6b0 : (t107 == 2147483647) = true := beq_iff_eq.mpr c6
        have c6b1 : (t107 != 2147483647) = false := bne_eq_false_iff_eq.mpr c6
        clear c6
        replace H := Option.bind_eq_some_iff.mp H
        obtain ⟨t108, A70, H⟩ := H
        replace H : (some (t108 == 30)) = some r := H
        have A7 := Aside0.mk A70
        clear A70
        obtain rfl := Option.some.inj H
        go_enter Try.func10, Try.ntmps10
        go_wp2_with (first | ((with_reducible refine gate_callee (f := 46) rfl ?_); refine goesL_ (some 1) rfl rfl Try.func46 (by kernel_rfl) rfl #[.int .i64 3, .int .i64 1] rfl (by (try simp only [List.map_toArray, List.map_cons, List.map_nil]); first | done | rfl | (simp only [List.length_drop, List.length_take]; rfl)) ?_; (with_reducible refine (fix_Round.calls 3 1 t105 _ A1.out).mono ?_); rintro e w' ⟨rfl, ⟨nd, rfl⟩⟩; refine ⟨_, rfl, ?_⟩) | (go_at_call 46; (with_reducible refine (fix_Round.calls (-3) 1 t106 _ A3.out).mono ?_); rintro e w' ⟨rfl, ⟨nd, rfl⟩⟩) | (go_at_call 16; (with_reducible refine (fix_Mul31.calls (-2147483648) (-2147483648) t107 _ A5.out).mono ?_); rintro e w' ⟨rfl, ⟨nd, rfl⟩⟩) | (go_at_call 17; (with_reducible refine (fix_Spare.calls 1 t108 _ A7.out).mono ?_); rintro e w' ⟨rfl, ⟨nd, rfl⟩⟩))
        go_ret
        exact ⟨by first | rfl | (simp; done) | (simp [*]; done), by repeat (first | exact Drawn0.refl _ | apply Drawn0.step)⟩
      · rw [if_neg c6] at H
        have c6b0 : (t107 == 2147483647) = false := beq_eq_false_iff_ne.mpr c6
        have c6b1 : (t107 != 2147483647) = true := bne_iff_ne.mpr c6
        obtain rfl := Option.some.inj H
        go_enter Try.func10, Try.ntmps10
        go_wp2_with (first | ((with_reducible refine gate_callee (f := 46) rfl ?_); refine goesL_ (some 1) rfl rfl Try.func46 (by kernel_rfl) rfl #[.int .i64 3, .int .i64 1] rfl (by (try simp only [List.map_toArray, List.map_cons, List.map_nil]); first | done | rfl | (simp only [List.length_drop, List.length_take]; rfl)) ?_; (with_reducible refine (fix_Round.calls 3 1 t105 _ A1.out).mono ?_); rintro e w' ⟨rfl, ⟨nd, rfl⟩⟩; refine ⟨_, rfl, ?_⟩) | (go_at_call 46; (with_reducible refine (fix_Round.calls (-3) 1 t106 _ A3.out).mono ?_); rintro e w' ⟨rfl, ⟨nd, rfl⟩⟩) | (go_at_call 16; (with_reducible refine (fix_Mul31.calls (-2147483648) (-2147483648) t107 _ A5.out).mono ?_); rintro e w' ⟨rfl, ⟨nd, rfl⟩⟩))
        go_ret
        exact ⟨by first | rfl | (simp; done) | (simp [*]; done), by repeat (first | exact Drawn0.refl _ | apply Drawn0.step)⟩
    · rw [if_neg c4] at H
      have c4b0 : (t106 == (-1)) = false := beq_eq_false_iff_ne.mpr c4
      have c4b1 : (t106 != (-1)) = true := bne_iff_ne.mpr c4
      obtain rfl := Option.some.inj H
      go_enter Try.func10, Try.ntmps10
      go_wp2_with (first | ((with_reducible refine gate_callee (f := 46) rfl ?_); refine goesL_ (some 1) rfl rfl Try.func46 (by kernel_rfl) rfl #[.int .i64 3, .int .i64 1] rfl (by (try simp only [List.map_toArray, List.map_cons, List.map_nil]); first | done | rfl | (simp only [List.length_drop, List.length_take]; rfl)) ?_; (with_reducible refine (fix_Round.calls 3 1 t105 _ A1.out).mono ?_); rintro e w' ⟨rfl, ⟨nd, rfl⟩⟩; refine ⟨_, rfl, ?_⟩) | (go_at_call 46; (with_reducible refine (fix_Round.calls (-3) 1 t106 _ A3.out).mono ?_); rintro e w' ⟨rfl, ⟨nd, rfl⟩⟩))
      go_ret
      exact ⟨by first | rfl | (simp; done) | (simp [*]; done), by repeat (first | exact Drawn0.refl _ | apply Drawn0.step)⟩
  · rw [if_neg c2] at H
    have c2b0 : (t105 == 2) = false := beq_eq_false_iff_ne.mpr c2
    have c2b1 : (t105 != 2) = true := bne_iff_ne.mpr c2
    obtain rfl := Option.some.inj H
    go_enter Try.func10, Try.ntmps10
    go_wp2_with (first | ((with_reducible refine gate_callee (f := 46) rfl ?_); refine goesL_ (some 1) rfl rfl Try.func46 (by kernel_rfl) rfl #[.int .i64 3, .int .i64 1] rfl (by (try simp only [List.map_toArray, List.map_cons, List.map_nil]); first | done | rfl | (simp only [List.length_drop, List.length_take]; rfl)) ?_; (with_reducible refine (fix_Round.calls 3 1 t105 _ A1.out).mono ?_); rintro e w' ⟨rfl, ⟨nd, rfl⟩⟩; refine ⟨_, rfl, ?_⟩))
    go_ret
    exact ⟨by first | rfl | (simp; done) | (simp [*]; done), by repeat (first | exact Drawn0.refl _ | apply Drawn0.step)⟩

/-! ### fix_Dot: function 19 -/
mutual
def fix_Dot.j0 : Nat → List Int → List Int → Int → Bool → Option (Int × Int)
  | 0, _, _, _, _ => none
  | k + 1, x0, x1, x2, x11 => if x11 = true then (some (0, 1)) else (if (x0.length : Int) > 65536 then (some (0, 2)) else (fix_Dot.l0 k x1 x2 0 x0 (x0.length : Int) 0))
def fix_Dot.l0 : Nat → List Int → Int → Int → List Int → Int → Int → Option (Int × Int)
  | 0, _, _, _, _, _, _ => none
  | k + 1, x1, x2, x8, x25, x26, x27 => if x27 < x26 then (if 0 ≤ x27 then (if x27 < (x25.length : Int) then (if x27 < (x1.length : Int) then (fix_Dot.l0 k x1 x2 (wrap64 (x8 + (wrap64 ((wrap64 (rd x25 x27)) * (wrap64 (rd x1 x27)))))) x25 x26 (wrap64 (x27 + 1))) else (none)) else (none)) else (none)) else ((fix_Round.f x8 x2).bind fun t111 => ((fix_Sat32.f t111).bind fun t112 => (some (t112, 0))))
end
def fix_Dot.f (k : Nat) (l0 : List Int) (l1 : List Int) (a2 : Int) : Option (Int × Int) := if (l0.length : Int) = (l1.length : Int) then (if a2 < 0 then (fix_Dot.j0 k l0 l1 a2 (decide (a2 < 0))) else (fix_Dot.j0 k l0 l1 a2 (decide (a2 > 62)))) else (fix_Dot.j0 k l0 l1 a2 ((l0.length : Int) != (l1.length : Int)))
theorem fix_Dot.mono_l : ∀ k, (∀ y0 y1 y2 y3, LeO (fix_Dot.j0 k y0 y1 y2 y3) (fix_Dot.j0 (k + 1) y0 y1 y2 y3)) ∧ (∀ y0 y1 y2 y3 y4 y5, LeO (fix_Dot.l0 k y0 y1 y2 y3 y4 y5) (fix_Dot.l0 (k + 1) y0 y1 y2 y3 y4 y5))
  | 0 => ⟨fun _ _ _ _ r h => by simp [fix_Dot.j0] at h, fun _ _ _ _ _ _ r h => by simp [fix_Dot.l0] at h⟩
  | k + 1 => by
    obtain ⟨ih0, ih1⟩ := fix_Dot.mono_l k
    refine ⟨?_, ?_⟩
    · intro y0 y1 y2 y3
      unfold fix_Dot.j0
      repeat' first
      | (with_reducible exact ih0 _ _ _ _)
      | (with_reducible exact ih1 _ _ _ _ _ _)
      | (with_reducible exact LeO.refl _)
      | (with_reducible exact LeO.none _)
      | (with_reducible refine LeO.ite ?_ ?_)
      | (with_reducible refine LeO.bind ?_ (fun _ => ?_))
      | exact ih0 _ _ _ _
      | exact ih1 _ _ _ _ _ _
      | exact LeO.none _
      | refine LeO.ite ?_ ?_
      | refine LeO.bind ?_ (fun _ => ?_)
    · intro y0 y1 y2 y3 y4 y5
      unfold fix_Dot.l0
      repeat' first
      | (with_reducible exact ih0 _ _ _ _)
      | (with_reducible exact ih1 _ _ _ _ _ _)
      | (with_reducible exact LeO.refl _)
      | (with_reducible exact LeO.none _)
      | (with_reducible refine LeO.ite ?_ ?_)
      | (with_reducible refine LeO.bind ?_ (fun _ => ?_))
      | exact ih0 _ _ _ _
      | exact ih1 _ _ _ _ _ _
      | exact LeO.none _
      | refine LeO.ite ?_ ?_
      | refine LeO.bind ?_ (fun _ => ?_)
theorem fix_Dot.mono : ∀ a0 a1 a2 k, LeO (fix_Dot.f k a0 a1 a2) (fix_Dot.f (k + 1) a0 a1 a2) := by
  intro a0 a1 a2 k
  obtain ⟨ih0, ih1⟩ := fix_Dot.mono_l k
  unfold fix_Dot.f
  repeat' first
      | (with_reducible exact ih0 _ _ _ _)
      | (with_reducible exact ih1 _ _ _ _ _ _)
      | (with_reducible exact LeO.refl _)
      | (with_reducible exact LeO.none _)
      | (with_reducible refine LeO.ite ?_ ?_)
      | (with_reducible refine LeO.bind ?_ (fun _ => ?_))
      | exact ih0 _ _ _ _
      | exact ih1 _ _ _ _ _ _
      | exact LeO.none _
      | refine LeO.ite ?_ ?_
      | refine LeO.bind ?_ (fun _ => ?_)
set_option maxHeartbeats 8000000 in
set_option maxRecDepth 100000 in
theorem fix_Dot.calls (k : Nat) (A0 : Option Addr) (c0 : Nat) (l0 : List Int) (A1 : Option Addr) (c1 : Nat) (l1 : List Int) (a2 : Int) (r1 : Int) (r2 : Int) (w : World) (hr0 : Kd.C (Kd.int .i32) w A0 l0.length l0) (hc0 : l0.length ≤ c0) (hr1 : Kd.C (Kd.int .i16) w A1 l1.length l1) (hc1 : l1.length ≤ c1) (h : fix_Dot.f k l0 l1 a2 = some (r1, r2)) :
    Calls Try.prog 19 #[.slice A0 l0.length c0, .slice A1 l1.length c1, .int .i64 a2] w fun e w' => e = .returned (.tuple #[.int .i32 r1, .int .i64 r2]) ∧ Drawn0 w w' := by
  have HR0 := Aside0.mk hr0
  have HC0 := Aside0.mk hc0
  clear hr0 hc0
  have HR1 := Aside0.mk hr1
  have HC1 := Aside0.mk hc1
  clear hr1 hc1
  have H : (if (l0.length : Int) = (l1.length : Int) then (if a2 < 0 then (fix_Dot.j0 k l0 l1 a2 (decide (a2 < 0))) else (fix_Dot.j0 k l0 l1 a2 (decide (a2 > 62)))) else (fix_Dot.j0 k l0 l1 a2 ((l0.length : Int) != (l1.length : Int)))) = some (r1, r2) := h
  clear h
  have HC4 := Aside0.mk H
  clear H
  go_enter Try.func19, Try.ntmps19
  go_upto_if 11 with (fail)
  go_cut [11] (fun v11 wc => ∃ (kq : Nat) (x11_3 : Bool), v11 = .bool x11_3 ∧ Aside0 (fix_Dot.j0 kq l0 l1 a2 x11_3 = some (r1, r2)) ∧ Aside0 (kq ≤ k) ∧ Drawn0 w wc)
  case first =>
    have H := HC4.out
    clear HC4
    by_cases c5 : (l0.length : Int) = (l1.length : Int)
    · rw [if_pos c5] at H
      have c5b0 : ((l0.length : Int) == (l1.length : Int)) = true := beq_iff_eq.mpr c5
      have c5b1 : ((l0.length : Int) != (l1.length : Int)) = false := bne_eq_false_iff_eq.mpr c5
      have c5b2 : (l0.length == l1.length) = true := by first | simpa using c5 | (simp at c5 ⊢; omega)
      clear c5
      (first | rw [c5b0] | (simp only [i64_w, i32_w]; rw [c5b0]) | skip)
      by_cases c6 : a2 < 0
      · rw [if_pos c6] at H
        have c6b0 : decide (a2 < 0) = true := decide_eq_true c6
        clear c6
        have H' := Aside0.mk H
        clear H
        go_wp2
        go_meet
        case rel => exact ⟨_, (decide (a2 < 0)), (by first | rfl | (simp; done) | (simp [*]; done)), H', ⟨by first | omega | exact Nat.le_refl _⟩, by repeat (first | exact Drawn0.refl _ | apply Drawn0.step)⟩
      · rw [if_neg c6] at H
        have c6b0 : decide (a2 < 0) = false := decide_eq_false c6
        clear c6
        have H' := Aside0.mk H
        clear H
        go_wp2
        go_meet
        case rel => exact ⟨_, (decide (a2 > 62)), (by first | rfl | (simp; done) | (simp [*]; done)), H', ⟨by first | omega | exact Nat.le_refl _⟩, by repeat (first | exact Drawn0.refl _ | apply Drawn0.step)⟩
    · rw [if_neg c5] at H
      have c5b0 : ((l0.length : Int) == (l1.length : Int)) = false := beq_eq_false_iff_ne.mpr c5
      have c5b1 : ((l0.length : Int) != (l1.length : Int)) = true := bne_iff_ne.mpr c5
      have c5b2 : (l0.length == l1.length) = false := by first | simpa using c5 | (simp at c5 ⊢; omega)
      (first | rw [c5b0] | (simp only [i64_w, i32_w]; rw [c5b0]) | skip)
      have H' := Aside0.mk H
      clear H
      go_wp2
      go_meet
      case rel => exact ⟨_, (((l0.length : Int) != (l1.length : Int))), (by first | rfl | (simp; done) | (simp [*]; done)), H', ⟨by first | omega | exact Nat.le_refl _⟩, by repeat (first | exact Drawn0.refl _ | apply Drawn0.step)⟩
  case rest =>
    clear HC4
    try clear c1
    try clear p2
    try clear c5
    try clear c5b0
    try clear c5b1
    try clear c5b2
    try clear c6
    try clear c6b0
    obtain ⟨kq, x11_3, rfl, HA, HJ3, ⟨mc3, rfl⟩⟩ := hcut
    cases kq with
    | zero => exact absurd HA.out (by simp [fix_Dot.j0])
    | succ kj3 =>
      have H := HA.out
      clear HA
      simp only [fix_Dot.j0] at H
      by_cases c7 : x11_3 = true
      · subst c7
        have H1 : (some (0, 1)) = some (r1, r2) := by rw [if_pos rfl] at H; exact H
        clear H
        have H := H1
        clear H1
        simp only [Option.some.injEq, Prod.mk.injEq] at H
        obtain ⟨rfl, rfl⟩ := H
        go_wp2
        go_ret2
        exact ⟨by first | rfl | (simp; done) | (simp [*]; done), by repeat (first | exact Drawn0.refl _ | apply Drawn0.step)⟩
      · replace c7 := Bool.eq_false_iff.mpr c7
        subst c7
        have H1 : (if (l0.length : Int) > 65536 then (some (0, 2)) else (fix_Dot.l0 kj3 l1 a2 0 l0 (l0.length : Int) 0)) = some (r1, r2) := by rw [if_neg (show ¬ (false = true) by decide)] at H; exact H
        clear H
        have H := H1
        clear H1
        by_cases c8 : (l0.length : Int) > 65536
        · rw [if_pos c8] at H
          have c8b0 : decide (65536 < (l0.length : Int)) = true := decide_eq_true c8
          have c8b1 : decide (65536 < l0.length) = true := decide_eq_true (by omega)
          clear c8
          simp only [Option.some.injEq, Prod.mk.injEq] at H
          obtain ⟨rfl, rfl⟩ := H
          go_wp2
          go_ret2
          exact ⟨by first | rfl | (simp; done) | (simp [*]; done), by repeat (first | exact Drawn0.refl _ | apply Drawn0.step)⟩
        · rw [if_neg c8] at H
          have c8b0 : decide (65536 < (l0.length : Int)) = false := decide_eq_false c8
          have c8b1 : decide (65536 < l0.length) = false := decide_eq_false (by omega)
          clear c8
          have H' := Aside0.mk H
          clear H
          go_wp2
          go_loopg [8, 27] kj3 (fun kq v8 v27 w' => ∃ (x8_2 : Int) (x27_2 : Int), v8 = .int .i64 x8_2 ∧ v27 = .int .i64 x27_2 ∧ Aside0 (fix_Dot.l0 kq l1 a2 x8_2 l0 (l0.length : Int) x27_2 = some (r1, r2)) ∧ Aside0 (kq ≤ kj3) ∧ Drawn0 w w')
          case atStart => exact ⟨(0), (0), (by first | rfl | (simp; done) | (simp [*]; done)), (by first | rfl | (simp; done) | (simp [*]; done)), H', ⟨Nat.le_refl _⟩, by repeat (first | exact Drawn0.refl _ | apply Drawn0.step)⟩
          case round =>
            clear H'
            try clear c1
            try clear p2
            try clear c3
            try clear c5
            try clear c5b0
            try clear c5b1
            try clear c5b2
            try clear c6
            try clear c6b0
            try clear c7
            try clear c8
            try clear c8b0
            try clear c8b1
            try clear p2
            obtain ⟨x8_2, x27_2, rfl, rfl, HA, HK2, ⟨m2, rfl⟩⟩ := hrel
            cases gk with
            | zero => exact absurd HA.out (by simp [fix_Dot.l0])
            | succ k2 =>
              have H := HA.out
              clear HA
              simp only [fix_Dot.l0] at H
              by_cases c9 : x27_2 < (l0.length : Int)
              · rw [if_pos c9] at H
                have c9b0 : decide (x27_2 < (l0.length : Int)) = true := decide_eq_true c9
                clear c9
                by_cases c10 : 0 ≤ x27_2
                · rw [if_pos c10] at H
                  have c10b0 : decide (0 ≤ x27_2) = true := decide_eq_true c10
                  clear c10
                  by_cases c11 : x27_2 < (l0.length : Int)
                  · rw [if_pos c11] at H
                    have c11b0 : decide (x27_2 < (l0.length : Int)) = true := decide_eq_true c11
                    clear c11
                    by_cases c12 : x27_2 < (l1.length : Int)
                    · rw [if_pos c12] at H
                      have c12b0 : decide (x27_2 < (l1.length : Int)) = true := decide_eq_true c12
                      clear c12
                      have H' := Aside0.mk H
                      clear H
                      have p109 : 0 ≤ (x27_2 : Int) := of_decide_eq_true (by first | (with_reducible assumption) | assumption)
                      have q109 : x27_2 < (l0.length : Int) := of_decide_eq_true (by first | (with_reducible assumption) | assumption)
                      obtain ⟨ad109, e109, hx109_0⟩ := Kd.at_int HR0.out x27_2 p109 q109
                      cases e109
                      replace p109 := eq_true p109
                      replace q109 := eq_true q109
                      have p110 : 0 ≤ (x27_2 : Int) := of_decide_eq_true (by first | (with_reducible assumption) | assumption)
                      have q110 : x27_2 < (l1.length : Int) := of_decide_eq_true (by first | (with_reducible assumption) | assumption)
                      obtain ⟨ad110, e110, hx110_0⟩ := Kd.at_int HR1.out x27_2 p110 q110
                      cases e110
                      replace p110 := eq_true p110
                      replace q110 := eq_true q110
                      go_wp2
                      go_roundg k2
                      case measure => have := HJ3.out; have := HK2.out; omega
                      case rel => exact ⟨(wrap64 (x8_2 + (wrap64 ((wrap64 (rd l0 x27_2)) * (wrap64 (rd l1 x27_2)))))), (wrap64 (x27_2 + 1)), (by first | rfl | (simp; done) | (simp [*]; done)), (by first | rfl | (simp; done) | (simp [*]; done)), H', ⟨by have := HJ3.out; have := HK2.out; omega⟩, by repeat (first | exact Drawn0.refl _ | apply Drawn0.step)⟩
                    · rw [if_neg c12] at H
                      exact absurd H (by simp)
                  · rw [if_neg c11] at H
                    exact absurd H (by simp)
                · rw [if_neg c10] at H
                  exact absurd H (by simp)
              · rw [if_neg c9] at H
                have c9b0 : decide (x27_2 < (l0.length : Int)) = false := decide_eq_false c9
                clear c9
                replace H := Option.bind_eq_some_iff.mp H
                obtain ⟨t111, A130, H⟩ := H
                replace H : ((fix_Sat32.f t111).bind fun t112 => (some (t112, 0))) = some (r1, r2) := H
                have A13 := Aside0.mk A130
                clear A130
                replace H := Option.bind_eq_some_iff.mp H
                obtain ⟨t112, A140, H⟩ := H
                replace H : (some (t112, 0)) = some (r1, r2) := H
                have A14 := Aside0.mk A140
                clear A140
                simp only [Option.some.injEq, Prod.mk.injEq] at H
                obtain ⟨rfl, rfl⟩ := H
                go_wp2_with (first | ((with_reducible refine gate_callee (f := 46) rfl ?_); refine goesL_ (some 45) rfl rfl Try.func46 (by kernel_rfl) rfl #[.int .i64 x8_2, .int .i64 a2] rfl (by (try simp only [List.map_toArray, List.map_cons, List.map_nil]); first | done | rfl | (simp only [List.length_drop, List.length_take]; rfl)) ?_; (with_reducible refine (fix_Round.calls x8_2 a2 t111 _ A13.out).mono ?_); rintro e w' ⟨rfl, ⟨nd, rfl⟩⟩; refine ⟨_, rfl, ?_⟩) | ((with_reducible refine gate_callee (f := 47) rfl ?_); refine goesL_ (some 46) rfl rfl Try.func47 (by kernel_rfl) rfl #[.int .i64 t111] rfl (by (try simp only [List.map_toArray, List.map_cons, List.map_nil]); first | done | rfl | (simp only [List.length_drop, List.length_take]; rfl)) ?_; (with_reducible refine (fix_Sat32.calls t111 t112 _ A14.out).mono ?_); rintro e w' ⟨rfl, ⟨nd, rfl⟩⟩; refine ⟨_, rfl, ?_⟩))
                go_ret2
                exact ⟨by first | rfl | (simp; done) | (simp [*]; done), by repeat (first | exact Drawn0.refl _ | apply Drawn0.step)⟩

/-! ### psalteryref01_Sat: function 12 (this session's text) -/
def psalteryref01_Sat.f (a0 a1 : Int) : Option (Int) := if a1 = 32 then some (Go.Proofs.YtojlgjdebokelaaH.clamp a0 (-2147483648) 2147483647) else if a1 = 16 then some (Go.Proofs.YtojlgjdebokelaaH.clamp a0 (-32768) 32767) else none
theorem psalteryref01_Sat.calls (a0 : Int) (a1 : Int) (r : Int) (w : World) (h : psalteryref01_Sat.f a0 a1 = some r) :
    Calls Try.prog 12 #[.int .i64 a0, .int .i64 a1] w fun e w' => e = .returned (.int .i64 r) ∧ Drawn0 w w' := by
  unfold psalteryref01_Sat.f at h
  by_cases h0 : a1 = 32
  · rw [if_pos h0] at h
    subst h0
    obtain rfl := Option.some.inj h
    exact (Go.Proofs.YtojlgjdebokelaaH.refsat32_any a0 w).mono fun e w' hh => ⟨hh.1, by rw [← hh.2]; exact Drawn0.refl w⟩
  · rw [if_neg h0] at h
    by_cases h1 : a1 = 16
    · rw [if_pos h1] at h
      subst h1
      obtain rfl := Option.some.inj h
      exact (Go.Proofs.YtojlgjdebokelaaH.refsat16_any a0 w).mono fun e w' hh => ⟨hh.1, by rw [← hh.2]; exact Drawn0.refl w⟩
    · rw [if_neg h1] at h; cases h

/-! ### psalteryref01_down: function 67 -/
def psalteryref01_down.f (a0 : Int) (a1 : Int) : Option (Int) := if a1 = 0 then (none) else (if (Int.tmod a0 a1) < 0 then (some (wrap64 ((wrap64 (Int.tdiv a0 a1)) - 1))) else (some (wrap64 (Int.tdiv a0 a1))))
set_option maxHeartbeats 8000000 in
set_option maxRecDepth 100000 in
theorem psalteryref01_down.calls (a0 : Int) (a1 : Int) (r : Int) (w : World) (h : psalteryref01_down.f a0 a1 = some r) :
    Calls Try.prog 67 #[.int .i64 a0, .int .i64 a1] w fun e w' => e = .returned (.int .i64 r) ∧ Drawn0 w w' := by
  have H : (if a1 = 0 then (none) else (if (Int.tmod a0 a1) < 0 then (some (wrap64 ((wrap64 (Int.tdiv a0 a1)) - 1))) else (some (wrap64 (Int.tdiv a0 a1))))) = some r := h
  clear h
  by_cases c3 : a1 = 0
  · rw [if_pos c3] at H
    exact absurd H (by simp)
  · rw [if_neg c3] at H
    have c3b0 : (a1 == 0) = false := beq_eq_false_iff_ne.mpr c3
    have c3b1 : (a1 != 0) = true := bne_iff_ne.mpr c3
    by_cases c4 : (Int.tmod a0 a1) < 0
    · rw [if_pos c4] at H
      have c4b0 : decide ((Int.tmod a0 a1) < 0) = true := decide_eq_true c4
      clear c4
      obtain rfl := Option.some.inj H
      go_enter Try.func67, Try.ntmps67
      go_wp2
      go_ret
      exact ⟨by first | rfl | (simp; done) | (simp [*]; done), by repeat (first | exact Drawn0.refl _ | apply Drawn0.step)⟩
    · rw [if_neg c4] at H
      have c4b0 : decide ((Int.tmod a0 a1) < 0) = false := decide_eq_false c4
      clear c4
      obtain rfl := Option.some.inj H
      go_enter Try.func67, Try.ntmps67
      go_wp2
      go_ret
      exact ⟨by first | rfl | (simp; done) | (simp [*]; done), by repeat (first | exact Drawn0.refl _ | apply Drawn0.step)⟩

/-! ### psalteryref01_Round: function 48 (this session's text) -/
def psalteryref01_Round.f (a0 : Int) (a1 : Int) : Option (Int) := if -9223372036854775808 ≤ a0 then (if a0 ≤ 9223372036854775807 then (some (Go.Proofs.YtojlgjdebokelaaH.rnd a0 a1)) else none) else none
theorem psalteryref01_Round.calls (a0 : Int) (a1 : Int) (r : Int) (w : World) (h : psalteryref01_Round.f a0 a1 = some r) :
    Calls Try.prog 48 #[.int .i64 a0, .int .i64 a1] w fun e w' => e = .returned (.int .i64 r) ∧ Drawn0 w w' := by
  unfold psalteryref01_Round.f at h
  by_cases h0 : -9223372036854775808 ≤ a0
  · rw [if_pos h0] at h
    by_cases h1 : a0 ≤ 9223372036854775807
    · rw [if_pos h1] at h
      obtain rfl := Option.some.inj h
      exact (Go.Proofs.YtojlgjdebokelaaH.rnd_any a0 a1 w ⟨h0, h1⟩).mono fun e w' hh => ⟨hh.1, by rw [← hh.2]; exact Drawn0.refl w⟩
    · rw [if_neg h1] at h; cases h
  · rw [if_neg h0] at h; cases h

/-! ### psalteryref01_Dot: function 20 -/
mutual
def psalteryref01_Dot.j0 : Nat → List Int → List Int → Int → Bool → Option (Int × Int)
  | 0, _, _, _, _ => none
  | k + 1, x0, x1, x2, x22 => if x22 = true then (some (0, 1)) else (if (x0.length : Int) > 65536 then (some (0, 2)) else (psalteryref01_Dot.l0 k x0 x1 x2 0 0))
def psalteryref01_Dot.l0 : Nat → List Int → List Int → Int → Int → Int → Option (Int × Int)
  | 0, _, _, _, _, _ => none
  | k + 1, x0, x1, x2, x8, x9 => if x9 < (x0.length : Int) then (if 0 ≤ x9 then (if x9 < (x1.length : Int) then (psalteryref01_Dot.l0 k x0 x1 x2 (wrap64 (x8 + (wrap64 ((wrap64 (rd x0 x9)) * (wrap64 (rd x1 x9)))))) (wrap64 (x9 + 1))) else (none)) else (none)) else ((psalteryref01_Round.f x8 x2).bind fun t115 => ((psalteryref01_Sat.f t115 32).bind fun t116 => (some (wrap32 (t116), 0))))
end
def psalteryref01_Dot.f (k : Nat) (l0 : List Int) (l1 : List Int) (a2 : Int) : Option (Int × Int) := if (l0.length : Int) = (l1.length : Int) then (if a2 < 0 then (psalteryref01_Dot.j0 k l0 l1 a2 true) else (psalteryref01_Dot.j0 k l0 l1 a2 (decide (a2 > 62)))) else (psalteryref01_Dot.j0 k l0 l1 a2 true)
theorem psalteryref01_Dot.mono_l : ∀ k, (∀ y0 y1 y2 y3, LeO (psalteryref01_Dot.j0 k y0 y1 y2 y3) (psalteryref01_Dot.j0 (k + 1) y0 y1 y2 y3)) ∧ (∀ y0 y1 y2 y3 y4, LeO (psalteryref01_Dot.l0 k y0 y1 y2 y3 y4) (psalteryref01_Dot.l0 (k + 1) y0 y1 y2 y3 y4))
  | 0 => ⟨fun _ _ _ _ r h => by simp [psalteryref01_Dot.j0] at h, fun _ _ _ _ _ r h => by simp [psalteryref01_Dot.l0] at h⟩
  | k + 1 => by
    obtain ⟨ih0, ih1⟩ := psalteryref01_Dot.mono_l k
    refine ⟨?_, ?_⟩
    · intro y0 y1 y2 y3
      unfold psalteryref01_Dot.j0
      repeat' first
      | (with_reducible exact ih0 _ _ _ _)
      | (with_reducible exact ih1 _ _ _ _ _)
      | (with_reducible exact LeO.refl _)
      | (with_reducible exact LeO.none _)
      | (with_reducible refine LeO.ite ?_ ?_)
      | (with_reducible refine LeO.bind ?_ (fun _ => ?_))
      | exact ih0 _ _ _ _
      | exact ih1 _ _ _ _ _
      | exact LeO.none _
      | refine LeO.ite ?_ ?_
      | refine LeO.bind ?_ (fun _ => ?_)
    · intro y0 y1 y2 y3 y4
      unfold psalteryref01_Dot.l0
      repeat' first
      | (with_reducible exact ih0 _ _ _ _)
      | (with_reducible exact ih1 _ _ _ _ _)
      | (with_reducible exact LeO.refl _)
      | (with_reducible exact LeO.none _)
      | (with_reducible refine LeO.ite ?_ ?_)
      | (with_reducible refine LeO.bind ?_ (fun _ => ?_))
      | exact ih0 _ _ _ _
      | exact ih1 _ _ _ _ _
      | exact LeO.none _
      | refine LeO.ite ?_ ?_
      | refine LeO.bind ?_ (fun _ => ?_)
theorem psalteryref01_Dot.mono : ∀ a0 a1 a2 k, LeO (psalteryref01_Dot.f k a0 a1 a2) (psalteryref01_Dot.f (k + 1) a0 a1 a2) := by
  intro a0 a1 a2 k
  obtain ⟨ih0, ih1⟩ := psalteryref01_Dot.mono_l k
  unfold psalteryref01_Dot.f
  repeat' first
      | (with_reducible exact ih0 _ _ _ _)
      | (with_reducible exact ih1 _ _ _ _ _)
      | (with_reducible exact LeO.refl _)
      | (with_reducible exact LeO.none _)
      | (with_reducible refine LeO.ite ?_ ?_)
      | (with_reducible refine LeO.bind ?_ (fun _ => ?_))
      | exact ih0 _ _ _ _
      | exact ih1 _ _ _ _ _
      | exact LeO.none _
      | refine LeO.ite ?_ ?_
      | refine LeO.bind ?_ (fun _ => ?_)
set_option maxHeartbeats 8000000 in
set_option maxRecDepth 100000 in
theorem psalteryref01_Dot.calls (k : Nat) (A0 : Option Addr) (c0 : Nat) (l0 : List Int) (A1 : Option Addr) (c1 : Nat) (l1 : List Int) (a2 : Int) (r1 : Int) (r2 : Int) (w : World) (hr0 : Kd.C (Kd.int .i32) w A0 l0.length l0) (hc0 : l0.length ≤ c0) (hr1 : Kd.C (Kd.int .i16) w A1 l1.length l1) (hc1 : l1.length ≤ c1) (h : psalteryref01_Dot.f k l0 l1 a2 = some (r1, r2)) :
    Calls Try.prog 20 #[.slice A0 l0.length c0, .slice A1 l1.length c1, .int .i64 a2] w fun e w' => e = .returned (.tuple #[.int .i32 r1, .int .i64 r2]) ∧ Drawn0 w w' := by
  have HR0 := Aside0.mk hr0
  have HC0 := Aside0.mk hc0
  clear hr0 hc0
  have HR1 := Aside0.mk hr1
  have HC1 := Aside0.mk hc1
  clear hr1 hc1
  have H : (if (l0.length : Int) = (l1.length : Int) then (if a2 < 0 then (psalteryref01_Dot.j0 k l0 l1 a2 true) else (psalteryref01_Dot.j0 k l0 l1 a2 (decide (a2 > 62)))) else (psalteryref01_Dot.j0 k l0 l1 a2 true)) = some (r1, r2) := h
  clear h
  have HC4 := Aside0.mk H
  clear H
  go_enter Try.func20, Try.ntmps20
  go_upto_region 1 with (fail)
  repeat (go_quiet (fail); go_upto_region 1 with (fail))
  go_cut [22] (fun v22 wc => ∃ (kq : Nat) (x22_3 : Bool), v22 = .bool x22_3 ∧ Aside0 (psalteryref01_Dot.j0 kq l0 l1 a2 x22_3 = some (r1, r2)) ∧ Aside0 (kq ≤ k) ∧ Drawn0 w wc)
  case first =>
    have H := HC4.out
    clear HC4
    by_cases c5 : (l0.length : Int) = (l1.length : Int)
    · rw [if_pos c5] at H
      have c5b0 : ((l0.length : Int) == (l1.length : Int)) = true := beq_iff_eq.mpr c5
      have c5b1 : ((l0.length : Int) != (l1.length : Int)) = false := bne_eq_false_iff_eq.mpr c5
      have c5b2 : (l0.length == l1.length) = true := by first | simpa using c5 | (simp at c5 ⊢; omega)
      clear c5
      (first | rw [c5b0] | (simp only [i64_w, i32_w]; rw [c5b0]) | skip)
      by_cases c6 : a2 < 0
      · rw [if_pos c6] at H
        have c6b0 : decide (a2 < 0) = true := decide_eq_true c6
        clear c6
        have H' := Aside0.mk H
        clear H
        go_wp2
        repeat (go_quiet (fail); try go_wp2)
        go_meet
        case rel => exact ⟨_, (true), (by first | rfl | (simp; done) | (simp [*]; done)), H', ⟨by first | omega | exact Nat.le_refl _⟩, by repeat (first | exact Drawn0.refl _ | apply Drawn0.step)⟩
      · rw [if_neg c6] at H
        have c6b0 : decide (a2 < 0) = false := decide_eq_false c6
        clear c6
        have H' := Aside0.mk H
        clear H
        go_wp2
        repeat (go_quiet (fail); try go_wp2)
        go_meet
        case rel => exact ⟨_, (decide (a2 > 62)), (by first | rfl | (simp; done) | (simp [*]; done)), H', ⟨by first | omega | exact Nat.le_refl _⟩, by repeat (first | exact Drawn0.refl _ | apply Drawn0.step)⟩
    · rw [if_neg c5] at H
      have c5b0 : ((l0.length : Int) == (l1.length : Int)) = false := beq_eq_false_iff_ne.mpr c5
      have c5b1 : ((l0.length : Int) != (l1.length : Int)) = true := bne_iff_ne.mpr c5
      have c5b2 : (l0.length == l1.length) = false := by first | simpa using c5 | (simp at c5 ⊢; omega)
      (first | rw [c5b0] | (simp only [i64_w, i32_w]; rw [c5b0]) | skip)
      have H' := Aside0.mk H
      clear H
      go_wp2
      repeat (go_quiet (fail); try go_wp2)
      go_meet
      case rel => exact ⟨_, (true), (by first | rfl | (simp; done) | (simp [*]; done)), H', ⟨by first | omega | exact Nat.le_refl _⟩, by repeat (first | exact Drawn0.refl _ | apply Drawn0.step)⟩
  case rest =>
    clear HC4
    try clear c1
    try clear c2
    try clear p2
    try clear c5
    try clear c5b0
    try clear c5b1
    try clear c5b2
    try clear c6
    try clear c6b0
    obtain ⟨kq, x22_3, rfl, HA, HJ3, ⟨mc3, rfl⟩⟩ := hcut
    cases kq with
    | zero => exact absurd HA.out (by simp [psalteryref01_Dot.j0])
    | succ kj3 =>
      have H := HA.out
      clear HA
      simp only [psalteryref01_Dot.j0] at H
      by_cases c7 : x22_3 = true
      · subst c7
        have H1 : (some (0, 1)) = some (r1, r2) := by rw [if_pos rfl] at H; exact H
        clear H
        have H := H1
        clear H1
        simp only [Option.some.injEq, Prod.mk.injEq] at H
        obtain ⟨rfl, rfl⟩ := H
        go_wp2
        repeat (go_quiet (fail); try go_wp2)
        go_ret2
        exact ⟨by first | rfl | (simp; done) | (simp [*]; done), by repeat (first | exact Drawn0.refl _ | apply Drawn0.step)⟩
      · replace c7 := Bool.eq_false_iff.mpr c7
        subst c7
        have H1 : (if (l0.length : Int) > 65536 then (some (0, 2)) else (psalteryref01_Dot.l0 kj3 l0 l1 a2 0 0)) = some (r1, r2) := by rw [if_neg (show ¬ (false = true) by decide)] at H; exact H
        clear H
        have H := H1
        clear H1
        by_cases c8 : (l0.length : Int) > 65536
        · rw [if_pos c8] at H
          have c8b0 : decide (65536 < (l0.length : Int)) = true := decide_eq_true c8
          have c8b1 : decide (65536 < l0.length) = true := decide_eq_true (by omega)
          clear c8
          simp only [Option.some.injEq, Prod.mk.injEq] at H
          obtain ⟨rfl, rfl⟩ := H
          go_wp2
          repeat (go_quiet (fail); try go_wp2)
          go_ret2
          exact ⟨by first | rfl | (simp; done) | (simp [*]; done), by repeat (first | exact Drawn0.refl _ | apply Drawn0.step)⟩
        · rw [if_neg c8] at H
          have c8b0 : decide (65536 < (l0.length : Int)) = false := decide_eq_false c8
          have c8b1 : decide (65536 < l0.length) = false := decide_eq_false (by omega)
          clear c8
          have H' := Aside0.mk H
          clear H
          go_wp2
          repeat (go_quiet (fail); try go_wp2)
          go_loopg [8, 9] kj3 (fun kq v8 v9 w' => ∃ (x8_2 : Int) (x9_2 : Int), v8 = .int .i64 x8_2 ∧ v9 = .int .i64 x9_2 ∧ Aside0 (psalteryref01_Dot.l0 kq l0 l1 a2 x8_2 x9_2 = some (r1, r2)) ∧ Aside0 (kq ≤ kj3) ∧ Drawn0 w w')
          case atStart => exact ⟨(0), (0), (by first | rfl | (simp; done) | (simp [*]; done)), (by first | rfl | (simp; done) | (simp [*]; done)), H', ⟨Nat.le_refl _⟩, by repeat (first | exact Drawn0.refl _ | apply Drawn0.step)⟩
          case round =>
            clear H'
            try clear c1
            try clear c2
            try clear p2
            try clear c3
            try clear c5
            try clear c5b0
            try clear c5b1
            try clear c5b2
            try clear c6
            try clear c6b0
            try clear c7
            try clear c8
            try clear c8b0
            try clear c8b1
            try clear p2
            obtain ⟨x8_2, x9_2, rfl, rfl, HA, HK2, ⟨m2, rfl⟩⟩ := hrel
            cases gk with
            | zero => exact absurd HA.out (by simp [psalteryref01_Dot.l0])
            | succ k2 =>
              have H := HA.out
              clear HA
              simp only [psalteryref01_Dot.l0] at H
              by_cases c9 : x9_2 < (l0.length : Int)
              · rw [if_pos c9] at H
                have c9b0 : decide (x9_2 < (l0.length : Int)) = true := decide_eq_true c9
                clear c9
                by_cases c10 : 0 ≤ x9_2
                · rw [if_pos c10] at H
                  have c10b0 : decide (0 ≤ x9_2) = true := decide_eq_true c10
                  clear c10
                  by_cases c11 : x9_2 < (l1.length : Int)
                  · rw [if_pos c11] at H
                    have c11b0 : decide (x9_2 < (l1.length : Int)) = true := decide_eq_true c11
                    clear c11
                    have H' := Aside0.mk H
                    clear H
                    have p113 : 0 ≤ (x9_2 : Int) := of_decide_eq_true (by first | (with_reducible assumption) | assumption)
                    have q113 : x9_2 < (l0.length : Int) := of_decide_eq_true (by first | (with_reducible assumption) | assumption)
                    obtain ⟨ad113, e113, hx113_0⟩ := Kd.at_int HR0.out x9_2 p113 q113
                    cases e113
                    replace p113 := eq_true p113
                    replace q113 := eq_true q113
                    have p114 : 0 ≤ (x9_2 : Int) := of_decide_eq_true (by first | (with_reducible assumption) | assumption)
                    have q114 : x9_2 < (l1.length : Int) := of_decide_eq_true (by first | (with_reducible assumption) | assumption)
                    obtain ⟨ad114, e114, hx114_0⟩ := Kd.at_int HR1.out x9_2 p114 q114
                    cases e114
                    replace p114 := eq_true p114
                    replace q114 := eq_true q114
                    go_wp2
                    repeat (go_quiet (fail); try go_wp2)
                    go_roundg k2
                    case measure => have := HJ3.out; have := HK2.out; omega
                    case rel => exact ⟨(wrap64 (x8_2 + (wrap64 ((wrap64 (rd l0 x9_2)) * (wrap64 (rd l1 x9_2)))))), (wrap64 (x9_2 + 1)), (by first | rfl | (simp; done) | (simp [*]; done)), (by first | rfl | (simp; done) | (simp [*]; done)), H', ⟨by have := HJ3.out; have := HK2.out; omega⟩, by repeat (first | exact Drawn0.refl _ | apply Drawn0.step)⟩
                  · rw [if_neg c11] at H
                    exact absurd H (by simp)
                · rw [if_neg c10] at H
                  exact absurd H (by simp)
              · rw [if_neg c9] at H
                have c9b0 : decide (x9_2 < (l0.length : Int)) = false := decide_eq_false c9
                clear c9
                replace H := Option.bind_eq_some_iff.mp H
                obtain ⟨t115, A120, H⟩ := H
                replace H : ((psalteryref01_Sat.f t115 32).bind fun t116 => (some (wrap32 (t116), 0))) = some (r1, r2) := H
                have A12 := Aside0.mk A120
                clear A120
                replace H := Option.bind_eq_some_iff.mp H
                obtain ⟨t116, A130, H⟩ := H
                replace H : (some (wrap32 (t116), 0)) = some (r1, r2) := H
                have A13 := Aside0.mk A130
                clear A130
                simp only [Option.some.injEq, Prod.mk.injEq] at H
                obtain ⟨rfl, rfl⟩ := H
                go_wp2_with (first | (go_at_call 48; (with_reducible refine (psalteryref01_Round.calls x8_2 a2 t115 _ A12.out).mono ?_); rintro e w' ⟨rfl, ⟨nd, rfl⟩⟩; (try first | exact ⟨rfl, _, World.drewN_drewN _ _ _⟩ | exact ⟨rfl, _, Eq.trans (World.drewN_drewN _ _ _) (congrArg (World.drewN _) (Nat.add_assoc _ _ _))⟩)) | (go_at_call 12; (with_reducible refine (psalteryref01_Sat.calls t115 32 t116 _ A13.out).mono ?_); rintro e w' ⟨rfl, ⟨nd, rfl⟩⟩; (try first | exact ⟨rfl, _, World.drewN_drewN _ _ _⟩ | exact ⟨rfl, _, Eq.trans (World.drewN_drewN _ _ _) (congrArg (World.drewN _) (Nat.add_assoc _ _ _))⟩)))
                repeat (go_quiet (first | (go_at_call 48; (with_reducible refine (psalteryref01_Round.calls x8_2 a2 t115 _ A12.out).mono ?_); rintro e w' ⟨rfl, ⟨nd, rfl⟩⟩; (try first | exact ⟨rfl, _, World.drewN_drewN _ _ _⟩ | exact ⟨rfl, _, Eq.trans (World.drewN_drewN _ _ _) (congrArg (World.drewN _) (Nat.add_assoc _ _ _))⟩)) | (go_at_call 12; (with_reducible refine (psalteryref01_Sat.calls t115 32 t116 _ A13.out).mono ?_); rintro e w' ⟨rfl, ⟨nd, rfl⟩⟩; (try first | exact ⟨rfl, _, World.drewN_drewN _ _ _⟩ | exact ⟨rfl, _, Eq.trans (World.drewN_drewN _ _ _) (congrArg (World.drewN _) (Nat.add_assoc _ _ _))⟩))); try go_wp2_with (first | (go_at_call 48; (with_reducible refine (psalteryref01_Round.calls x8_2 a2 t115 _ A12.out).mono ?_); rintro e w' ⟨rfl, ⟨nd, rfl⟩⟩; (try first | exact ⟨rfl, _, World.drewN_drewN _ _ _⟩ | exact ⟨rfl, _, Eq.trans (World.drewN_drewN _ _ _) (congrArg (World.drewN _) (Nat.add_assoc _ _ _))⟩)) | (go_at_call 12; (with_reducible refine (psalteryref01_Sat.calls t115 32 t116 _ A13.out).mono ?_); rintro e w' ⟨rfl, ⟨nd, rfl⟩⟩; (try first | exact ⟨rfl, _, World.drewN_drewN _ _ _⟩ | exact ⟨rfl, _, Eq.trans (World.drewN_drewN _ _ _) (congrArg (World.drewN _) (Nat.add_assoc _ _ _))⟩))))
                go_ret2
                exact ⟨by first | rfl | (simp; done) | (simp [*]; done), by repeat (first | exact Drawn0.refl _ | apply Drawn0.step)⟩

end Go.Proofs.Ytojlgjdebokelaa.PFixSums
