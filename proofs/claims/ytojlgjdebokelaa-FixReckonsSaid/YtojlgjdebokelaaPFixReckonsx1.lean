-- Written by wip/myprint.py, a program of this session's, over the kit's print and this session's given texts. Not trusted: Lean checks it.
import Derived.Test.YtojlgjdebokelaaPFixReckonsx0
namespace Go.Proofs.Ytojlgjdebokelaa.PFixReckons
open Go.RowKit Go.Proofs.YtojlgjdebokelaaW.PrintWords Go.Proofs.YtojlgjdebokelaaW.PrintLast Go.Proofs.YtojlgjdebokelaaW.PrintMore
attribute [local go_sem] max2_int min2_int max_two min_two max_three min_three max_four min_four   -- for this text's walks alone
set_option linter.unusedVariables false
set_option linter.unusedSimpArgs false

/-! ### fix_within_int: function 65 (this session's text) -/
def fix_within_int.f (a0 : Int) (a1 : Int) (a2 : Int) : Option (Int) := some (Go.Proofs.YtojlgjdebokelaaH.clamp a0 a1 a2)
theorem fix_within_int.calls (a0 : Int) (a1 : Int) (a2 : Int) (r : Int) (w : World) (h : fix_within_int.f a0 a1 a2 = some r) :
    Calls Try.prog 65 #[.int .i64 a0, .int .i64 a1, .int .i64 a2] w fun e w' => e = .returned (.int .i64 r) ∧ Drawn0 w w' := by
  unfold fix_within_int.f at h
  obtain rfl := Option.some.inj h
  exact (Go.Proofs.YtojlgjdebokelaaH.withinint_any a0 a1 a2 w).mono fun e w' hh => ⟨hh.1, by rw [← hh.2]; exact Drawn0.refl w⟩

/-! ### fix_Round: function 46 (this session's text) -/
def fix_Round.f (a0 : Int) (a1 : Int) : Option (Int) := if -9223372036854775808 ≤ a0 then (if a0 ≤ 9223372036854775807 then (some (Go.Proofs.YtojlgjdebokelaaH.rnd a0 a1)) else none) else none
theorem fix_Round.calls (a0 : Int) (a1 : Int) (r : Int) (w : World) (h : fix_Round.f a0 a1 = some r) :
    Calls Try.prog 46 #[.int .i64 a0, .int .i64 a1] w fun e w' => e = .returned (.int .i64 r) ∧ Drawn0 w w' := by
  unfold fix_Round.f at h
  by_cases h0 : -9223372036854775808 ≤ a0
  · rw [if_pos h0] at h
    by_cases h1 : a0 ≤ 9223372036854775807
    · rw [if_pos h1] at h
      obtain rfl := Option.some.inj h
      exact (Go.Proofs.YtojlgjdebokelaaH.fixround_any a0 a1 w ⟨h0, h1⟩).mono fun e w' hh => ⟨hh.1, ⟨hh.2⟩⟩
    · rw [if_neg h1] at h; cases h
  · rw [if_neg h0] at h; cases h

/-! ### fix_within_int64: function 66 (this session's text) -/
def fix_within_int64.f (a0 : Int) (a1 : Int) (a2 : Int) : Option (Int) := some (Go.Proofs.YtojlgjdebokelaaH.clamp a0 a1 a2)
theorem fix_within_int64.calls (a0 : Int) (a1 : Int) (a2 : Int) (r : Int) (w : World) (h : fix_within_int64.f a0 a1 a2 = some r) :
    Calls Try.prog 66 #[.int .i64 a0, .int .i64 a1, .int .i64 a2] w fun e w' => e = .returned (.int .i64 r) ∧ Drawn0 w w' := by
  unfold fix_within_int64.f at h
  obtain rfl := Option.some.inj h
  exact (Go.Proofs.YtojlgjdebokelaaH.within64_any a0 a1 a2 w).mono fun e w' hh => ⟨hh.1, by rw [← hh.2]; exact Drawn0.refl w⟩

/-! ### fix_Sat32: function 47 (this session's text) -/
def fix_Sat32.f (a0 : Int) : Option (Int) := some (Go.Proofs.YtojlgjdebokelaaH.clamp a0 (-2147483648) 2147483647)
theorem fix_Sat32.calls (a0 : Int) (r : Int) (w : World) (h : fix_Sat32.f a0 = some r) :
    Calls Try.prog 47 #[.int .i64 a0] w fun e w' => e = .returned (.int .i32 r) ∧ Drawn0 w w' := by
  unfold fix_Sat32.f at h
  obtain rfl := Option.some.inj h
  exact (Go.Proofs.YtojlgjdebokelaaH.sat32_any a0 w).mono fun e w' hh => ⟨hh.1, by rw [← hh.2]; exact Drawn0.refl w⟩

/-! ### fix_Mul31: function 16 -/
def fix_Mul31.f (a0 : Int) (a1 : Int) : Option (Int) := (fix_Round.f (wrap64 ((wrap64 (a0)) * (wrap64 (a1)))) 31).bind fun t101 => ((fix_Sat32.f t101).bind fun t102 => (some t102))
set_option maxHeartbeats 8000000 in
set_option maxRecDepth 100000 in
theorem fix_Mul31.calls (a0 : Int) (a1 : Int) (r : Int) (w : World) (h : fix_Mul31.f a0 a1 = some r) :
    Calls Try.prog 16 #[.int .i32 a0, .int .i32 a1] w fun e w' => e = .returned (.int .i32 r) ∧ Drawn0 w w' := by
  have H : ((fix_Round.f (wrap64 ((wrap64 (a0)) * (wrap64 (a1)))) 31).bind fun t101 => ((fix_Sat32.f t101).bind fun t102 => (some t102))) = some r := h
  clear h
  replace H := Option.bind_eq_some_iff.mp H
  obtain ⟨t101, A30, H⟩ := H
  replace H : ((fix_Sat32.f t101).bind fun t102 => (some t102)) = some r := H
  have A3 := Aside0.mk A30
  clear A30
  replace H := Option.bind_eq_some_iff.mp H
  obtain ⟨t102, A40, H⟩ := H
  replace H : (some t102) = some r := H
  have A4 := Aside0.mk A40
  clear A40
  obtain rfl := Option.some.inj H
  go_enter Try.func16, Try.ntmps16
  go_wp2_with (first | ((with_reducible refine gate_callee (f := 46) rfl ?_); refine goesL_ (some 10) rfl rfl Try.func46 (by kernel_rfl) rfl #[.int .i64 (wrap64 ((wrap64 (a0)) * (wrap64 (a1)))), .int .i64 31] rfl (by (try simp only [List.map_toArray, List.map_cons, List.map_nil]); first | done | rfl | (simp only [List.length_drop, List.length_take]; rfl)) ?_; (with_reducible refine (fix_Round.calls (wrap64 ((wrap64 (a0)) * (wrap64 (a1)))) 31 t101 _ A3.out).mono ?_); rintro e w' ⟨rfl, ⟨nd, rfl⟩⟩; refine ⟨_, rfl, ?_⟩) | ((with_reducible refine gate_callee (f := 47) rfl ?_); refine goesL_ (some 11) rfl rfl Try.func47 (by kernel_rfl) rfl #[.int .i64 t101] rfl (by (try simp only [List.map_toArray, List.map_cons, List.map_nil]); first | done | rfl | (simp only [List.length_drop, List.length_take]; rfl)) ?_; (with_reducible refine (fix_Sat32.calls t101 t102 _ A4.out).mono ?_); rintro e w' ⟨rfl, ⟨nd, rfl⟩⟩; refine ⟨_, rfl, ?_⟩))
  go_ret
  exact ⟨by first | rfl | (simp; done) | (simp [*]; done), by repeat (first | exact Drawn0.refl _ | apply Drawn0.step)⟩

/-! ### bits_Len32: function 68 (this session's text) -/
def bits_Len32.f (a0 : Int) : Option (Int) := if 0 ≤ a0 then (if a0 ≤ 4294967295 then (some (((Lib.bitLen a0.toNat : Nat) : Int))) else none) else none
theorem bits_Len32.calls (a0 : Int) (r : Int) (w : World) (h : bits_Len32.f a0 = some r) :
    Calls Try.prog 68 #[.int .u32 a0] w fun e w' => e = .returned (.int .i64 r) ∧ Drawn0 w w' := by
  unfold bits_Len32.f at h
  by_cases h0 : 0 ≤ a0
  · rw [if_pos h0] at h
    by_cases h1 : a0 ≤ 4294967295
    · rw [if_pos h1] at h
      obtain rfl := Option.some.inj h
      exact (Go.Proofs.YtojlgjdebokelaaH.len32_any a0 w h0 h1).mono fun e w' hh => ⟨hh.1, by rw [← hh.2]; exact Drawn0.refl w⟩
    · rw [if_neg h1] at h; cases h
  · rw [if_neg h0] at h; cases h

/-! ### bits_LeadingZeros32: function 49 -/
def bits_LeadingZeros32.f (a0 : Int) : Option (Int) := (bits_Len32.f a0).bind fun t103 => (some (wrap64 (32 - t103)))
set_option maxHeartbeats 8000000 in
set_option maxRecDepth 100000 in
theorem bits_LeadingZeros32.calls (a0 : Int) (r : Int) (w : World) (h : bits_LeadingZeros32.f a0 = some r) :
    Calls Try.prog 49 #[.int .u32 a0] w fun e w' => e = .returned (.int .i64 r) ∧ Drawn0 w w' := by
  have H : ((bits_Len32.f a0).bind fun t103 => (some (wrap64 (32 - t103)))) = some r := h
  clear h
  replace H := Option.bind_eq_some_iff.mp H
  obtain ⟨t103, A20, H⟩ := H
  replace H : (some (wrap64 (32 - t103))) = some r := H
  have A2 := Aside0.mk A20
  clear A20
  obtain rfl := Option.some.inj H
  go_enter Try.func49, Try.ntmps49
  go_wp2_with (first | ((with_reducible refine gate_callee (f := 68) rfl ?_); refine goesL_ (some 4) rfl rfl Try.func68 (by kernel_rfl) rfl #[.int .u32 a0] rfl (by (try simp only [List.map_toArray, List.map_cons, List.map_nil]); first | done | rfl | (simp only [List.length_drop, List.length_take]; rfl)) ?_; (with_reducible refine (bits_Len32.calls a0 t103 _ A2.out).mono ?_); rintro e w' ⟨rfl, ⟨nd, rfl⟩⟩; refine ⟨_, rfl, ?_⟩))
  go_ret
  exact ⟨by first | rfl | (simp; done) | (simp [*]; done), by repeat (first | exact Drawn0.refl _ | apply Drawn0.step)⟩

/-! ### fix_Spare: function 17 -/
def fix_Spare.f (a0 : Int) : Option (Int) := if a0 = 0 then (some 31) else ((bits_LeadingZeros32.f ((Go.bits .xor .i32 a0 (a0 / 2147483648)) % 4294967296)).bind fun t104 => (some (wrap64 (t104 - 1))))
set_option maxHeartbeats 8000000 in
set_option maxRecDepth 100000 in
theorem fix_Spare.calls (a0 : Int) (r : Int) (w : World) (h : fix_Spare.f a0 = some r) :
    Calls Try.prog 17 #[.int .i32 a0] w fun e w' => e = .returned (.int .i64 r) ∧ Drawn0 w w' := by
  have H : (if a0 = 0 then (some 31) else ((bits_LeadingZeros32.f ((Go.bits .xor .i32 a0 (a0 / 2147483648)) % 4294967296)).bind fun t104 => (some (wrap64 (t104 - 1))))) = some r := h
  clear h
  by_cases c2 : a0 = 0
  · rw [if_pos c2] at H
    have c2b0 : (a0 == 0) = true := beq_iff_eq.mpr c2
    have c2b1 : (a0 != 0) = false := bne_eq_false_iff_eq.mpr c2
    clear c2
    obtain rfl := Option.some.inj H
    go_enter Try.func17, Try.ntmps17
    go_wp2
    go_ret
    exact ⟨by first | rfl | (simp; done) | (simp [*]; done), by repeat (first | exact Drawn0.refl _ | apply Drawn0.step)⟩
  · rw [if_neg c2] at H
    have c2b0 : (a0 == 0) = false := beq_eq_false_iff_ne.mpr c2
    have c2b1 : (a0 != 0) = true := bne_iff_ne.mpr c2
    replace H := Option.bind_eq_some_iff.mp H
    obtain ⟨t104, A30, H⟩ := H
    replace H : (some (wrap64 (t104 - 1))) = some r := H
    have A3 := Aside0.mk A30
    clear A30
    obtain rfl := Option.some.inj H
    go_enter Try.func17, Try.ntmps17
    go_wp2_with (first | ((with_reducible refine gate_callee (f := 49) rfl ?_); refine goesL_ (some 10) rfl rfl Try.func49 (by kernel_rfl) rfl #[.int .u32 ((Go.bits .xor .i32 a0 (a0 / 2147483648)) % 4294967296)] rfl (by (try simp only [List.map_toArray, List.map_cons, List.map_nil]); first | done | rfl | (simp only [List.length_drop, List.length_take]; rfl)) ?_; (with_reducible refine (bits_LeadingZeros32.calls ((Go.bits .xor .i32 a0 (a0 / 2147483648)) % 4294967296) t104 _ A3.out).mono ?_); rintro e w' ⟨rfl, ⟨nd, rfl⟩⟩; refine ⟨_, rfl, ?_⟩))
    go_ret
    exact ⟨by first | rfl | (simp; done) | (simp [*]; done), by repeat (first | exact Drawn0.refl _ | apply Drawn0.step)⟩

/-! ### psalterylaw01_alive: function 10 -/
def psalterylaw01_alive.f  : Option (Bool) := (fix_Round.f 3 1).bind fun t105 => (if t105 = 2 then ((fix_Round.f (-3) 1).bind fun t106 => (if t106 = (-1) then ((fix_Mul31.f (-2147483648) (-2147483648)).bind fun t107 => (if t107 = 2147483647 then ((fix_Spare.f 1).bind fun t108 => (some (t108 == 30))) else (some false))) else (some false))) else (some false))
set_option maxHeartbeats 8000000 in
set_option maxRecDepth 100000 in
theorem psalterylaw01_alive.calls  (r : Bool) (w : World) (h : psalterylaw01_alive.f  = some r) :
    Calls Try.prog 10 #[] w fun e w' => e = .returned (.bool r) ∧ Drawn0 w w' := by
  have H : ((fix_Round.f 3 1).bind fun t105 => (if t105 = 2 then ((fix_Round.f (-3) 1).bind fun t106 => (if t106 = (-1) then ((fix_Mul31.f (-2147483648) (-2147483648)).bind fun t107 => (if t107 = 2147483647 then ((fix_Spare.f 1).bind fun t108 => (some (t108 == 30))) else (some false))) else (some false))) else (some false))) = some r := h
  clear h
  replace H := Option.bind_eq_some_iff.mp H
  obtain ⟨t105, A10, H⟩ := H
  replace H : (if t105 = 2 then ((fix_Round.f (-3) 1).bind fun t106 => (if t106 = (-1) then ((fix_Mul31.f (-2147483648) (-2147483648)).bind fun t107 => (if t107 = 2147483647 then ((fix_Spare.f 1).bind fun t108 => (some (t108 == 30))) else (some false))) else (some false))) else (some false)) = some r := H
  have A1 := Aside0.mk A10
  clear A10
  by_cases c2 : t105 = 2
  · rw [if_pos c2] at H
    have c2b0 : (t105 == 2) = true := beq_iff_eq.mpr c2
    have c2b1 : (t105 != 2) = false := bne_eq_false_iff_eq.mpr c2
    clear c2
    replace H := Option.bind_eq_some_iff.mp H
    obtain ⟨t106, A30, H⟩ := H
    replace H : (if t106 = (-1) then ((fix_Mul31.f (-2147483648) (-2147483648)).bind fun t107 => (if t107 = 2147483647 then ((fix_Spare.f 1).bind fun t108 => (some (t108 == 30))) else (some false))) else (some false)) = some r := H
    have A3 := Aside0.mk A30
    clear A30
    by_cases c4 : t106 = (-1)
    · rw [if_pos c4] at H
      have c4b0 : (t106 == (-1)) = true := beq_iff_eq.mpr c4
      have c4b1 : (t106 != (-1)) = false := bne_eq_false_iff_eq.mpr c4
      clear c4
      replace H := Option.bind_eq_some_iff.mp H
      obtain ⟨t107, A50, H⟩ := H
      replace H : (if t107 = 2147483647 then ((fix_Spare.f 1).bind fun t108 => (some (t108 == 30))) else (some false)) = some r := H
      have A5 := Aside0.mk A50
      clear A50
      by_cases c6 : t107 = 2147483647
      · rw [if_pos c6] at H
        have c6b0 : (t107 == 2147483647) = true := beq_iff_eq.mpr c6
        have c6b1 : (t107 != 2147483647) = false := bne_eq_false_iff_eq.mpr c6
        clear c6
        replace H := Option.bind_eq_some_iff.mp H
        obtain ⟨t108, A70, H⟩ := H
        replace H : (some (t108 == 30)) = some r := H
        have A7 := Aside0.mk A70
        clear A70
        obtain rfl := Option.some.inj H
        go_enter Try.func10, Try.ntmps10
        go_wp2_with (first | ((with_reducible refine gate_callee (f := 46) rfl ?_); refine goesL_ (some 1) rfl rfl Try.func46 (by kernel_rfl) rfl #[.int .i64 3, .int .i64 1] rfl (by (try simp only [List.map_toArray, List.map_cons, List.map_nil]); first | done | rfl | (simp only [List.length_drop, List.length_take]; rfl)) ?_; (with_reducible refine (fix_Round.calls 3 1 t105 _ A1.out).mono ?_); rintro e w' ⟨rfl, ⟨nd, rfl⟩⟩; refine ⟨_, rfl, ?_⟩) | (go_at_call 46; (with_reducible refine (fix_Round.calls (-3) 1 t106 _ A3.out).mono ?_); rintro e w' ⟨rfl, ⟨nd, rfl⟩⟩) | (go_at_call 16; (with_reducible refine (fix_Mul31.calls (-2147483648) (-2147483648) t107 _ A5.out).mono ?_); rintro e w' ⟨rfl, ⟨nd, rfl⟩⟩) | (go_at_call 17; (with_reducible refine (fix_Spare.calls 1 t108 _ A7.out).mono ?_); rintro e w' ⟨rfl, ⟨nd, rfl⟩⟩))
        go_ret
        exact ⟨by first | rfl | (simp; done) | (simp [*]; done), by repeat (first | exact Drawn0.refl _ | apply Drawn0.step)⟩
      · rw [if_neg c6] at H
        have c6b0 : (t107 == 2147483647) = false := beq_eq_false_iff_ne.mpr c6
        have c6b1 : (t107 != 2147483647) = true := bne_iff_ne.mpr c6
        obtain rfl := Option.some.inj H
        go_enter Try.func10, Try.ntmps10
        go_wp2_with (first | ((with_reducible refine gate_callee (f := 46) rfl ?_); refine goesL_ (some 1) rfl rfl Try.func46 (by kernel_rfl) rfl #[.int .i64 3, .int .i64 1] rfl (by (try simp only [List.map_toArray, List.map_cons, List.map_nil]); first | done | rfl | (simp only [List.length_drop, List.length_take]; rfl)) ?_; (with_reducible refine (fix_Round.calls 3 1 t105 _ A1.out).mono ?_); rintro e w' ⟨rfl, ⟨nd, rfl⟩⟩; refine ⟨_, rfl, ?_⟩) | (go_at_call 46; (with_reducible refine (fix_Round.calls (-3) 1 t106 _ A3.out).mono ?_); rintro e w' ⟨rfl, ⟨nd, rfl⟩⟩) | (go_at_call 16; (with_reducible refine (fix_Mul31.calls (-2147483648) (-2147483648) t107 _ A5.out).mono ?_); rintro e w' ⟨rfl, ⟨nd, rfl⟩⟩))
        go_ret
        exact ⟨by first | rfl | (simp; done) | (simp [*]; done), by repeat (first | exact Drawn0.refl _ | apply Drawn0.step)⟩
    · rw [if_neg c4] at H
      have c4b0 : (t106 == (-1)) = false := beq_eq_false_iff_ne.mpr c4
      have c4b1 : (t106 != (-1)) = true := bne_iff_ne.mpr c4
      obtain rfl := Option.some.inj H
      go_enter Try.func10, Try.ntmps10
      go_wp2_with (first | ((with_reducible refine gate_callee (f := 46) rfl ?_); refine goesL_ (some 1) rfl rfl Try.func46 (by kernel_rfl) rfl #[.int .i64 3, .int .i64 1] rfl (by (try simp only [List.map_toArray, List.map_cons, List.map_nil]); first | done | rfl | (simp only [List.length_drop, List.length_take]; rfl)) ?_; (with_reducible refine (fix_Round.calls 3 1 t105 _ A1.out).mono ?_); rintro e w' ⟨rfl, ⟨nd, rfl⟩⟩; refine ⟨_, rfl, ?_⟩) | (go_at_call 46; (with_reducible refine (fix_Round.calls (-3) 1 t106 _ A3.out).mono ?_); rintro e w' ⟨rfl, ⟨nd, rfl⟩⟩))
      go_ret
      exact ⟨by first | rfl | (simp; done) | (simp [*]; done), by repeat (first | exact Drawn0.refl _ | apply Drawn0.step)⟩
  · rw [if_neg c2] at H
    have c2b0 : (t105 == 2) = false := beq_eq_false_iff_ne.mpr c2
    have c2b1 : (t105 != 2) = true := bne_iff_ne.mpr c2
    obtain rfl := Option.some.inj H
    go_enter Try.func10, Try.ntmps10
    go_wp2_with (first | ((with_reducible refine gate_callee (f := 46) rfl ?_); refine goesL_ (some 1) rfl rfl Try.func46 (by kernel_rfl) rfl #[.int .i64 3, .int .i64 1] rfl (by (try simp only [List.map_toArray, List.map_cons, List.map_nil]); first | done | rfl | (simp only [List.length_drop, List.length_take]; rfl)) ?_; (with_reducible refine (fix_Round.calls 3 1 t105 _ A1.out).mono ?_); rintro e w' ⟨rfl, ⟨nd, rfl⟩⟩; refine ⟨_, rfl, ?_⟩))
    go_ret
    exact ⟨by first | rfl | (simp; done) | (simp [*]; done), by repeat (first | exact Drawn0.refl _ | apply Drawn0.step)⟩

/-! ### fix_Add: function 11 -/
def fix_Add.f (a0 : Int) (a1 : Int) : Option (Int) := (fix_Sat32.f (wrap64 ((wrap64 (a0)) + (wrap64 (a1))))).bind fun t109 => (some t109)
set_option maxHeartbeats 8000000 in
set_option maxRecDepth 100000 in
theorem fix_Add.calls (a0 : Int) (a1 : Int) (r : Int) (w : World) (h : fix_Add.f a0 a1 = some r) :
    Calls Try.prog 11 #[.int .i32 a0, .int .i32 a1] w fun e w' => e = .returned (.int .i32 r) ∧ Drawn0 w w' := by
  have H : ((fix_Sat32.f (wrap64 ((wrap64 (a0)) + (wrap64 (a1))))).bind fun t109 => (some t109)) = some r := h
  clear h
  replace H := Option.bind_eq_some_iff.mp H
  obtain ⟨t109, A30, H⟩ := H
  replace H : (some t109) = some r := H
  have A3 := Aside0.mk A30
  clear A30
  obtain rfl := Option.some.inj H
  go_enter Try.func11, Try.ntmps11
  go_wp2_with (first | ((with_reducible refine gate_callee (f := 47) rfl ?_); refine goesL_ (some 10) rfl rfl Try.func47 (by kernel_rfl) rfl #[.int .i64 (wrap64 ((wrap64 (a0)) + (wrap64 (a1))))] rfl (by (try simp only [List.map_toArray, List.map_cons, List.map_nil]); first | done | rfl | (simp only [List.length_drop, List.length_take]; rfl)) ?_; (with_reducible refine (fix_Sat32.calls (wrap64 ((wrap64 (a0)) + (wrap64 (a1)))) t109 _ A3.out).mono ?_); rintro e w' ⟨rfl, ⟨nd, rfl⟩⟩; refine ⟨_, rfl, ?_⟩))
  go_ret
  exact ⟨by first | rfl | (simp; done) | (simp [*]; done), by repeat (first | exact Drawn0.refl _ | apply Drawn0.step)⟩

/-! ### psalteryref01_Sat: function 12 (this session's text) -/
def psalteryref01_Sat.f (a0 a1 : Int) : Option (Int) := if a1 = 32 then some (Go.Proofs.YtojlgjdebokelaaH.clamp a0 (-2147483648) 2147483647) else if a1 = 16 then some (Go.Proofs.YtojlgjdebokelaaH.clamp a0 (-32768) 32767) else none
theorem psalteryref01_Sat.calls (a0 : Int) (a1 : Int) (r : Int) (w : World) (h : psalteryref01_Sat.f a0 a1 = some r) :
    Calls Try.prog 12 #[.int .i64 a0, .int .i64 a1] w fun e w' => e = .returned (.int .i64 r) ∧ Drawn0 w w' := by
  unfold psalteryref01_Sat.f at h
  by_cases h0 : a1 = 32
  · rw [if_pos h0] at h
    subst h0
    obtain rfl := Option.some.inj h
    exact (Go.Proofs.YtojlgjdebokelaaH.refsat32_any a0 w).mono fun e w' hh => ⟨hh.1, by rw [← hh.2]; exact Drawn0.refl w⟩
  · rw [if_neg h0] at h
    by_cases h1 : a1 = 16
    · rw [if_pos h1] at h
      subst h1
      obtain rfl := Option.some.inj h
      exact (Go.Proofs.YtojlgjdebokelaaH.refsat16_any a0 w).mono fun e w' hh => ⟨hh.1, by rw [← hh.2]; exact Drawn0.refl w⟩
    · rw [if_neg h1] at h; cases h

/-! ### fix_Sub: function 13 -/
def fix_Sub.f (a0 : Int) (a1 : Int) : Option (Int) := (fix_Sat32.f (wrap64 ((wrap64 (a0)) - (wrap64 (a1))))).bind fun t110 => (some t110)
set_option maxHeartbeats 8000000 in
set_option maxRecDepth 100000 in
theorem fix_Sub.calls (a0 : Int) (a1 : Int) (r : Int) (w : World) (h : fix_Sub.f a0 a1 = some r) :
    Calls Try.prog 13 #[.int .i32 a0, .int .i32 a1] w fun e w' => e = .returned (.int .i32 r) ∧ Drawn0 w w' := by
  have H : ((fix_Sat32.f (wrap64 ((wrap64 (a0)) - (wrap64 (a1))))).bind fun t110 => (some t110)) = some r := h
  clear h
  replace H := Option.bind_eq_some_iff.mp H
  obtain ⟨t110, A30, H⟩ := H
  replace H : (some t110) = some r := H
  have A3 := Aside0.mk A30
  clear A30
  obtain rfl := Option.some.inj H
  go_enter Try.func13, Try.ntmps13
  go_wp2_with (first | ((with_reducible refine gate_callee (f := 47) rfl ?_); refine goesL_ (some 10) rfl rfl Try.func47 (by kernel_rfl) rfl #[.int .i64 (wrap64 ((wrap64 (a0)) - (wrap64 (a1))))] rfl (by (try simp only [List.map_toArray, List.map_cons, List.map_nil]); first | done | rfl | (simp only [List.length_drop, List.length_take]; rfl)) ?_; (with_reducible refine (fix_Sat32.calls (wrap64 ((wrap64 (a0)) - (wrap64 (a1)))) t110 _ A3.out).mono ?_); rintro e w' ⟨rfl, ⟨nd, rfl⟩⟩; refine ⟨_, rfl, ?_⟩))
  go_ret
  exact ⟨by first | rfl | (simp; done) | (simp [*]; done), by repeat (first | exact Drawn0.refl _ | apply Drawn0.step)⟩

/-! ### fix_Mul15: function 14 -/
def fix_Mul15.f (a0 : Int) (a1 : Int) : Option (Int) := (fix_Round.f (wrap64 ((wrap64 (a0)) * (wrap64 (a1)))) 15).bind fun t111 => ((fix_Sat32.f t111).bind fun t112 => (some t112))
set_option maxHeartbeats 8000000 in
set_option maxRecDepth 100000 in
theorem fix_Mul15.calls (a0 : Int) (a1 : Int) (r : Int) (w : World) (h : fix_Mul15.f a0 a1 = some r) :
    Calls Try.prog 14 #[.int .i32 a0, .int .i16 a1] w fun e w' => e = .returned (.int .i32 r) ∧ Drawn0 w w' := by
  have H : ((fix_Round.f (wrap64 ((wrap64 (a0)) * (wrap64 (a1)))) 15).bind fun t111 => ((fix_Sat32.f t111).bind fun t112 => (some t112))) = some r := h
  clear h
  replace H := Option.bind_eq_some_iff.mp H
  obtain ⟨t111, A30, H⟩ := H
  replace H : ((fix_Sat32.f t111).bind fun t112 => (some t112)) = some r := H
  have A3 := Aside0.mk A30
  clear A30
  replace H := Option.bind_eq_some_iff.mp H
  obtain ⟨t112, A40, H⟩ := H
  replace H : (some t112) = some r := H
  have A4 := Aside0.mk A40
  clear A40
  obtain rfl := Option.some.inj H
  go_enter Try.func14, Try.ntmps14
  go_wp2_with (first | ((with_reducible refine gate_callee (f := 46) rfl ?_); refine goesL_ (some 10) rfl rfl Try.func46 (by kernel_rfl) rfl #[.int .i64 (wrap64 ((wrap64 (a0)) * (wrap64 (a1)))), .int .i64 15] rfl (by (try simp only [List.map_toArray, List.map_cons, List.map_nil]); first | done | rfl | (simp only [List.length_drop, List.length_take]; rfl)) ?_; (with_reducible refine (fix_Round.calls (wrap64 ((wrap64 (a0)) * (wrap64 (a1)))) 15 t111 _ A3.out).mono ?_); rintro e w' ⟨rfl, ⟨nd, rfl⟩⟩; refine ⟨_, rfl, ?_⟩) | ((with_reducible refine gate_callee (f := 47) rfl ?_); refine goesL_ (some 11) rfl rfl Try.func47 (by kernel_rfl) rfl #[.int .i64 t111] rfl (by (try simp only [List.map_toArray, List.map_cons, List.map_nil]); first | done | rfl | (simp only [List.length_drop, List.length_take]; rfl)) ?_; (with_reducible refine (fix_Sat32.calls t111 t112 _ A4.out).mono ?_); rintro e w' ⟨rfl, ⟨nd, rfl⟩⟩; refine ⟨_, rfl, ?_⟩))
  go_ret
  exact ⟨by first | rfl | (simp; done) | (simp [*]; done), by repeat (first | exact Drawn0.refl _ | apply Drawn0.step)⟩

/-! ### psalteryref01_down: function 67 -/
def psalteryref01_down.f (a0 : Int) (a1 : Int) : Option (Int) := if a1 = 0 then (none) else (if (Int.tmod a0 a1) < 0 then (some (wrap64 ((wrap64 (Int.tdiv a0 a1)) - 1))) else (some (wrap64 (Int.tdiv a0 a1))))
set_option maxHeartbeats 8000000 in
set_option maxRecDepth 100000 in
theorem psalteryref01_down.calls (a0 : Int) (a1 : Int) (r : Int) (w : World) (h : psalteryref01_down.f a0 a1 = some r) :
    Calls Try.prog 67 #[.int .i64 a0, .int .i64 a1] w fun e w' => e = .returned (.int .i64 r) ∧ Drawn0 w w' := by
  have H : (if a1 = 0 then (none) else (if (Int.tmod a0 a1) < 0 then (some (wrap64 ((wrap64 (Int.tdiv a0 a1)) - 1))) else (some (wrap64 (Int.tdiv a0 a1))))) = some r := h
  clear h
  by_cases c3 : a1 = 0
  · rw [if_pos c3] at H
    exact absurd H (by simp)
  · rw [if_neg c3] at H
    have c3b0 : (a1 == 0) = false := beq_eq_false_iff_ne.mpr c3
    have c3b1 : (a1 != 0) = true := bne_iff_ne.mpr c3
    by_cases c4 : (Int.tmod a0 a1) < 0
    · rw [if_pos c4] at H
      have c4b0 : decide ((Int.tmod a0 a1) < 0) = true := decide_eq_true c4
      clear c4
      obtain rfl := Option.some.inj H
      go_enter Try.func67, Try.ntmps67
      go_wp2
      go_ret
      exact ⟨by first | rfl | (simp; done) | (simp [*]; done), by repeat (first | exact Drawn0.refl _ | apply Drawn0.step)⟩
    · rw [if_neg c4] at H
      have c4b0 : decide ((Int.tmod a0 a1) < 0) = false := decide_eq_false c4
      clear c4
      obtain rfl := Option.some.inj H
      go_enter Try.func67, Try.ntmps67
      go_wp2
      go_ret
      exact ⟨by first | rfl | (simp; done) | (simp [*]; done), by repeat (first | exact Drawn0.refl _ | apply Drawn0.step)⟩

/-! ### psalteryref01_Round: function 48 (this session's text) -/
def psalteryref01_Round.f (a0 : Int) (a1 : Int) : Option (Int) := if -9223372036854775808 ≤ a0 then (if a0 ≤ 9223372036854775807 then (some (Go.Proofs.YtojlgjdebokelaaH.rnd a0 a1)) else none) else none
theorem psalteryref01_Round.calls (a0 : Int) (a1 : Int) (r : Int) (w : World) (h : psalteryref01_Round.f a0 a1 = some r) :
    Calls Try.prog 48 #[.int .i64 a0, .int .i64 a1] w fun e w' => e = .returned (.int .i64 r) ∧ Drawn0 w w' := by
  unfold psalteryref01_Round.f at h
  by_cases h0 : -9223372036854775808 ≤ a0
  · rw [if_pos h0] at h
    by_cases h1 : a0 ≤ 9223372036854775807
    · rw [if_pos h1] at h
      obtain rfl := Option.some.inj h
      exact (Go.Proofs.YtojlgjdebokelaaH.rnd_any a0 a1 w ⟨h0, h1⟩).mono fun e w' hh => ⟨hh.1, by rw [← hh.2]; exact Drawn0.refl w⟩
    · rw [if_neg h1] at h; cases h
  · rw [if_neg h0] at h; cases h

/-! ### psalteryref01_Mul: function 15 -/
def psalteryref01_Mul.f (a0 : Int) (a1 : Int) (a2 : Int) : Option (Int) := (psalteryref01_Round.f (wrap64 (a0 * a1)) a2).bind fun t113 => ((psalteryref01_Sat.f t113 32).bind fun t114 => (some (wrap32 (t114))))
set_option maxHeartbeats 8000000 in
set_option maxRecDepth 100000 in
theorem psalteryref01_Mul.calls (a0 : Int) (a1 : Int) (a2 : Int) (r : Int) (w : World) (h : psalteryref01_Mul.f a0 a1 a2 = some r) :
    Calls Try.prog 15 #[.int .i64 a0, .int .i64 a1, .int .i64 a2] w fun e w' => e = .returned (.int .i32 r) ∧ Drawn0 w w' := by
  have H : ((psalteryref01_Round.f (wrap64 (a0 * a1)) a2).bind fun t113 => ((psalteryref01_Sat.f t113 32).bind fun t114 => (some (wrap32 (t114))))) = some r := h
  clear h
  replace H := Option.bind_eq_some_iff.mp H
  obtain ⟨t113, A40, H⟩ := H
  replace H : ((psalteryref01_Sat.f t113 32).bind fun t114 => (some (wrap32 (t114)))) = some r := H
  have A4 := Aside0.mk A40
  clear A40
  replace H := Option.bind_eq_some_iff.mp H
  obtain ⟨t114, A50, H⟩ := H
  replace H : (some (wrap32 (t114))) = some r := H
  have A5 := Aside0.mk A50
  clear A50
  obtain rfl := Option.some.inj H
  go_enter Try.func15, Try.ntmps15
  go_wp2_with (first | ((with_reducible refine gate_callee (f := 48) rfl ?_); refine goesL_ (some 11) rfl rfl Try.func48 (by kernel_rfl) rfl #[.int .i64 (wrap64 (a0 * a1)), .int .i64 a2] rfl (by (try simp only [List.map_toArray, List.map_cons, List.map_nil]); first | done | rfl | (simp only [List.length_drop, List.length_take]; rfl)) ?_; (with_reducible refine (psalteryref01_Round.calls (wrap64 (a0 * a1)) a2 t113 _ A4.out).mono ?_); rintro e w' ⟨rfl, ⟨nd, rfl⟩⟩; refine ⟨_, rfl, ?_⟩) | ((with_reducible refine gate_callee (f := 12) rfl ?_); refine goesL_ (some 12) rfl rfl Try.func12 (by kernel_rfl) rfl #[.int .i64 t113, .int .i64 32] rfl (by (try simp only [List.map_toArray, List.map_cons, List.map_nil]); first | done | rfl | (simp only [List.length_drop, List.length_take]; rfl)) ?_; (with_reducible refine (psalteryref01_Sat.calls t113 32 t114 _ A5.out).mono ?_); rintro e w' ⟨rfl, ⟨nd, rfl⟩⟩; refine ⟨_, rfl, ?_⟩))
  go_ret
  exact ⟨by first | rfl | (simp; done) | (simp [*]; done), by repeat (first | exact Drawn0.refl _ | apply Drawn0.step)⟩

/-! ### psalteryref01_Spare: function 18 -/
def psalteryref01_Spare.l0 : Nat → Int → Int → Option (Int)
  | 0, _, _ => none
  | k + 1, x3, x4 => if x3 < 31 then (if (wrap64 (x4 * 2)) ≤ 2147483647 then (if (wrap64 (x4 * 2)) ≥ (-2147483648) then (psalteryref01_Spare.l0 k (wrap64 (x3 + 1)) (wrap64 (x4 * 2))) else (some x3)) else (some x3)) else (some x3)
def psalteryref01_Spare.f (k : Nat) (a0 : Int) : Option (Int) := psalteryref01_Spare.l0 k 0 (wrap64 (a0))
theorem psalteryref01_Spare.mono_l : ∀ k, (∀ y0 y1, LeO (psalteryref01_Spare.l0 k y0 y1) (psalteryref01_Spare.l0 (k + 1) y0 y1))
  | 0 => fun _ _ r h => by simp [psalteryref01_Spare.l0] at h
  | k + 1 => by
    have ih0 := psalteryref01_Spare.mono_l k
    · intro y0 y1
      unfold psalteryref01_Spare.l0
      repeat' first
      | (with_reducible exact ih0 _ _)
      | (with_reducible exact LeO.refl _)
      | (with_reducible exact LeO.none _)
      | (with_reducible refine LeO.ite ?_ ?_)
      | (with_reducible refine LeO.bind ?_ (fun _ => ?_))
      | exact ih0 _ _
      | exact LeO.none _
      | refine LeO.ite ?_ ?_
      | refine LeO.bind ?_ (fun _ => ?_)
theorem psalteryref01_Spare.mono : ∀ a0 k, LeO (psalteryref01_Spare.f k a0) (psalteryref01_Spare.f (k + 1) a0) := by
  intro a0 k
  have ih0 := psalteryref01_Spare.mono_l k
  unfold psalteryref01_Spare.f
  repeat' first
      | (with_reducible exact ih0 _ _)
      | (with_reducible exact LeO.refl _)
      | (with_reducible exact LeO.none _)
      | (with_reducible refine LeO.ite ?_ ?_)
      | (with_reducible refine LeO.bind ?_ (fun _ => ?_))
      | exact ih0 _ _
      | exact LeO.none _
      | refine LeO.ite ?_ ?_
      | refine LeO.bind ?_ (fun _ => ?_)
set_option maxHeartbeats 8000000 in
set_option maxRecDepth 100000 in
theorem psalteryref01_Spare.calls (k : Nat) (a0 : Int) (r : Int) (w : World) (h : psalteryref01_Spare.f k a0 = some r) :
    Calls Try.prog 18 #[.int .i32 a0] w fun e w' => e = .returned (.int .i64 r) ∧ Drawn0 w w' := by
  have H : (psalteryref01_Spare.l0 k 0 (wrap64 (a0))) = some r := h
  clear h
  have H' := Aside0.mk H
  clear H
  go_enter Try.func18, Try.ntmps18
  go_wp2
  go_loopg [3, 4] k (fun kq v3 v4 w' => ∃ (x3_1 : Int) (x4_1 : Int), v3 = .int .i64 x3_1 ∧ v4 = .int .i64 x4_1 ∧ Aside0 (psalteryref01_Spare.l0 kq x3_1 x4_1 = some r) ∧ Aside0 (kq ≤ k) ∧ Drawn0 w w')
  case atStart => exact ⟨(0), (wrap64 (a0)), (by first | rfl | (simp; done) | (simp [*]; done)), (by first | rfl | (simp; done) | (simp [*]; done)), H', ⟨Nat.le_refl _⟩, by repeat (first | exact Drawn0.refl _ | apply Drawn0.step)⟩
  case round =>
    clear H'
    try clear c1
    obtain ⟨x3_1, x4_1, rfl, rfl, HA, HK1, ⟨m1, rfl⟩⟩ := hrel
    cases gk with
    | zero => exact absurd HA.out (by simp [psalteryref01_Spare.l0])
    | succ k1 =>
      have H := HA.out
      clear HA
      simp only [psalteryref01_Spare.l0] at H
      by_cases c2 : x3_1 < 31
      · rw [if_pos c2] at H
        have c2b0 : decide (x3_1 < 31) = true := decide_eq_true c2
        clear c2
        by_cases c3 : (wrap64 (x4_1 * 2)) ≤ 2147483647
        · rw [if_pos c3] at H
          have c3b0 : decide ((wrap64 (x4_1 * 2)) ≤ 2147483647) = true := decide_eq_true c3
          clear c3
          by_cases c4 : (wrap64 (x4_1 * 2)) ≥ (-2147483648)
          · rw [if_pos c4] at H
            have c4b0 : decide ((-2147483648) ≤ (wrap64 (x4_1 * 2))) = true := decide_eq_true c4
            clear c4
            have H' := Aside0.mk H
            clear H
            go_wp2
            go_roundg k1
            case measure => have := HK1.out; omega
            case rel => exact ⟨(wrap64 (x3_1 + 1)), (wrap64 (x4_1 * 2)), (by first | rfl | (simp; done) | (simp [*]; done)), (by first | rfl | (simp; done) | (simp [*]; done)), H', ⟨by have := HK1.out; omega⟩, by repeat (first | exact Drawn0.refl _ | apply Drawn0.step)⟩
          · rw [if_neg c4] at H
            have c4b0 : decide ((-2147483648) ≤ (wrap64 (x4_1 * 2))) = false := decide_eq_false c4
            clear c4
            obtain rfl := Option.some.inj H
            go_wp2
            go_ret
            exact ⟨by first | rfl | (simp; done) | (simp [*]; done), by repeat (first | exact Drawn0.refl _ | apply Drawn0.step)⟩
        · rw [if_neg c3] at H
          have c3b0 : decide ((wrap64 (x4_1 * 2)) ≤ 2147483647) = false := decide_eq_false c3
          clear c3
          obtain rfl := Option.some.inj H
          go_wp2
          go_ret
          exact ⟨by first | rfl | (simp; done) | (simp [*]; done), by repeat (first | exact Drawn0.refl _ | apply Drawn0.step)⟩
      · rw [if_neg c2] at H
        have c2b0 : decide (x3_1 < 31) = false := decide_eq_false c2
        clear c2
        obtain rfl := Option.some.inj H
        go_wp2
        go_ret
        exact ⟨by first | rfl | (simp; done) | (simp [*]; done), by repeat (first | exact Drawn0.refl _ | apply Drawn0.step)⟩

/-! ### psalterylaw01_FixReckons: function 3 -/
def psalterylaw01_FixReckons.f (k : Nat) (a0 : Int) (a1 : Int) (a2 : Int) : Option (Bool) := (psalterylaw01_alive.f).bind fun t115 => (if t115 = true then ((fix_Add.f a0 a1).bind fun t116 => ((psalteryref01_Sat.f (wrap64 ((wrap64 (a0)) + (wrap64 (a1)))) 32).bind fun t117 => (if (wrap64 (t116)) = t117 then ((fix_Sub.f a0 a1).bind fun t118 => ((psalteryref01_Sat.f (wrap64 ((wrap64 (a0)) - (wrap64 (a1)))) 32).bind fun t119 => (if (wrap64 (t118)) = t119 then ((fix_Mul15.f a0 a2).bind fun t120 => ((psalteryref01_Mul.f (wrap64 (a0)) (wrap64 (a2)) 15).bind fun t121 => (if t120 = t121 then ((fix_Mul31.f a0 a1).bind fun t122 => ((psalteryref01_Mul.f (wrap64 (a0)) (wrap64 (a1)) 31).bind fun t123 => (if t122 = t123 then ((fix_Spare.f a0).bind fun t124 => ((psalteryref01_Spare.f k a0).bind fun t125 => (some (t124 == t125)))) else (some false)))) else (some false)))) else (some false)))) else (some false)))) else (some false))
theorem psalterylaw01_FixReckons.mono : ∀ a0 a1 a2 k, LeO (psalterylaw01_FixReckons.f k a0 a1 a2) (psalterylaw01_FixReckons.f (k + 1) a0 a1 a2) := by
  intro a0 a1 a2 k
  unfold psalterylaw01_FixReckons.f
  repeat' first
      | (with_reducible exact psalteryref01_Spare.mono _ _)
      | (with_reducible exact LeO.refl _)
      | (with_reducible exact LeO.none _)
      | (with_reducible refine LeO.ite ?_ ?_)
      | (with_reducible refine LeO.bind ?_ (fun _ => ?_))
      | exact psalteryref01_Spare.mono _ _
      | exact LeO.none _
      | refine LeO.ite ?_ ?_
      | refine LeO.bind ?_ (fun _ => ?_)
set_option maxHeartbeats 8000000 in
set_option maxRecDepth 100000 in
theorem psalterylaw01_FixReckons.calls (k : Nat) (a0 : Int) (a1 : Int) (a2 : Int) (r : Bool) (w : World) (h : psalterylaw01_FixReckons.f k a0 a1 a2 = some r) :
    Calls Try.prog 3 #[.int .i32 a0, .int .i32 a1, .int .i16 a2] w fun e w' => e = .returned (.bool r) ∧ Drawn0 w w' := by
  have H : ((psalterylaw01_alive.f).bind fun t115 => (if t115 = true then ((fix_Add.f a0 a1).bind fun t116 => ((psalteryref01_Sat.f (wrap64 ((wrap64 (a0)) + (wrap64 (a1)))) 32).bind fun t117 => (if (wrap64 (t116)) = t117 then ((fix_Sub.f a0 a1).bind fun t118 => ((psalteryref01_Sat.f (wrap64 ((wrap64 (a0)) - (wrap64 (a1)))) 32).bind fun t119 => (if (wrap64 (t118)) = t119 then ((fix_Mul15.f a0 a2).bind fun t120 => ((psalteryref01_Mul.f (wrap64 (a0)) (wrap64 (a2)) 15).bind fun t121 => (if t120 = t121 then ((fix_Mul31.f a0 a1).bind fun t122 => ((psalteryref01_Mul.f (wrap64 (a0)) (wrap64 (a1)) 31).bind fun t123 => (if t122 = t123 then ((fix_Spare.f a0).bind fun t124 => ((psalteryref01_Spare.f k a0).bind fun t125 => (some (t124 == t125)))) else (some false)))) else (some false)))) else (some false)))) else (some false)))) else (some false))) = some r := h
  clear h
  replace H := Option.bind_eq_some_iff.mp H
  obtain ⟨t115, A40, H⟩ := H
  replace H : (if t115 = true then ((fix_Add.f a0 a1).bind fun t116 => ((psalteryref01_Sat.f (wrap64 ((wrap64 (a0)) + (wrap64 (a1)))) 32).bind fun t117 => (if (wrap64 (t116)) = t117 then ((fix_Sub.f a0 a1).bind fun t118 => ((psalteryref01_Sat.f (wrap64 ((wrap64 (a0)) - (wrap64 (a1)))) 32).bind fun t119 => (if (wrap64 (t118)) = t119 then ((fix_Mul15.f a0 a2).bind fun t120 => ((psalteryref01_Mul.f (wrap64 (a0)) (wrap64 (a2)) 15).bind fun t121 => (if t120 = t121 then ((fix_Mul31.f a0 a1).bind fun t122 => ((psalteryref01_Mul.f (wrap64 (a0)) (wrap64 (a1)) 31).bind fun t123 => (if t122 = t123 then ((fix_Spare.f a0).bind fun t124 => ((psalteryref01_Spare.f k a0).bind fun t125 => (some (t124 == t125)))) else (some false)))) else (some false)))) else (some false)))) else (some false)))) else (some false)) = some r := H
  have A4 := Aside0.mk A40
  clear A40
  by_cases c5 : t115 = true
  · subst c5
    have H1 : ((fix_Add.f a0 a1).bind fun t116 => ((psalteryref01_Sat.f (wrap64 ((wrap64 (a0)) + (wrap64 (a1)))) 32).bind fun t117 => (if (wrap64 (t116)) = t117 then ((fix_Sub.f a0 a1).bind fun t118 => ((psalteryref01_Sat.f (wrap64 ((wrap64 (a0)) - (wrap64 (a1)))) 32).bind fun t119 => (if (wrap64 (t118)) = t119 then ((fix_Mul15.f a0 a2).bind fun t120 => ((psalteryref01_Mul.f (wrap64 (a0)) (wrap64 (a2)) 15).bind fun t121 => (if t120 = t121 then ((fix_Mul31.f a0 a1).bind fun t122 => ((psalteryref01_Mul.f (wrap64 (a0)) (wrap64 (a1)) 31).bind fun t123 => (if t122 = t123 then ((fix_Spare.f a0).bind fun t124 => ((psalteryref01_Spare.f k a0).bind fun t125 => (some (t124 == t125)))) else (some false)))) else (some false)))) else (some false)))) else (some false)))) = some r := by rw [if_pos rfl] at H; exact H
    clear H
    have H := H1
    clear H1
    replace H := Option.bind_eq_some_iff.mp H
    obtain ⟨t116, A60, H⟩ := H
    replace H : ((psalteryref01_Sat.f (wrap64 ((wrap64 (a0)) + (wrap64 (a1)))) 32).bind fun t117 => (if (wrap64 (t116)) = t117 then ((fix_Sub.f a0 a1).bind fun t118 => ((psalteryref01_Sat.f (wrap64 ((wrap64 (a0)) - (wrap64 (a1)))) 32).bind fun t119 => (if (wrap64 (t118)) = t119 then ((fix_Mul15.f a0 a2).bind fun t120 => ((psalteryref01_Mul.f (wrap64 (a0)) (wrap64 (a2)) 15).bind fun t121 => (if t120 = t121 then ((fix_Mul31.f a0 a1).bind fun t122 => ((psalteryref01_Mul.f (wrap64 (a0)) (wrap64 (a1)) 31).bind fun t123 => (if t122 = t123 then ((fix_Spare.f a0).bind fun t124 => ((psalteryref01_Spare.f k a0).bind fun t125 => (some (t124 == t125)))) else (some false)))) else (some false)))) else (some false)))) else (some false))) = some r := H
    have A6 := Aside0.mk A60
    clear A60
    replace H := Option.bind_eq_some_iff.mp H
    obtain ⟨t117, A70, H⟩ := H
    replace H : (if (wrap64 (t116)) = t117 then ((fix_Sub.f a0 a1).bind fun t118 => ((psalteryref01_Sat.f (wrap64 ((wrap64 (a0)) - (wrap64 (a1)))) 32).bind fun t119 => (if (wrap64 (t118)) = t119 then ((fix_Mul15.f a0 a2).bind fun t120 => ((psalteryref01_Mul.f (wrap64 (a0)) (wrap64 (a2)) 15).bind fun t121 => (if t120 = t121 then ((fix_Mul31.f a0 a1).bind fun t122 => ((psalteryref01_Mul.f (wrap64 (a0)) (wrap64 (a1)) 31).bind fun t123 => (if t122 = t123 then ((fix_Spare.f a0).bind fun t124 => ((psalteryref01_Spare.f k a0).bind fun t125 => (some (t124 == t125)))) else (some false)))) else (some false)))) else (some false)))) else (some false)) = some r := H
    have A7 := Aside0.mk A70
    clear A70
    by_cases c8 : (wrap64 (t116)) = t117
    · rw [if_pos c8] at H
      have c8b0 : ((wrap64 (t116)) == t117) = true := beq_iff_eq.mpr c8
      have c8b1 : ((wrap64 (t116)) != t117) = false := bne_eq_false_iff_eq.mpr c8
      clear c8
      replace H := Option.bind_eq_some_iff.mp H
      obtain ⟨t118, A90, H⟩ := H
      replace H : ((psalteryref01_Sat.f (wrap64 ((wrap64 (a0)) - (wrap64 (a1)))) 32).bind fun t119 => (if (wrap64 (t118)) = t119 then ((fix_Mul15.f a0 a2).bind fun t120 => ((psalteryref01_Mul.f (wrap64 (a0)) (wrap64 (a2)) 15).bind fun t121 => (if t120 = t121 then ((fix_Mul31.f a0 a1).bind fun t122 => ((psalteryref01_Mul.f (wrap64 (a0)) (wrap64 (a1)) 31).bind fun t123 => (if t122 = t123 then ((fix_Spare.f a0).bind fun t124 => ((psalteryref01_Spare.f k a0).bind fun t125 => (some (t124 == t125)))) else (some false)))) else (some false)))) else (some false))) = some r := H
      have A9 := Aside0.mk A90
      clear A90
      replace H := Option.bind_eq_some_iff.mp H
      obtain ⟨t119, A100, H⟩ := H
      replace H : (if (wrap64 (t118)) = t119 then ((fix_Mul15.f a0 a2).bind fun t120 => ((psalteryref01_Mul.f (wrap64 (a0)) (wrap64 (a2)) 15).bind fun t121 => (if t120 = t121 then ((fix_Mul31.f a0 a1).bind fun t122 => ((psalteryref01_Mul.f (wrap64 (a0)) (wrap64 (a1)) 31).bind fun t123 => (if t122 = t123 then ((fix_Spare.f a0).bind fun t124 => ((psalteryref01_Spare.f k a0).bind fun t125 => (some (t124 == t125)))) else (some false)))) else (some false)))) else (some false)) = some r := H
      have A10 := Aside0.mk A100
      clear A100
      by_cases c11 : (wrap64 (t118)) = t119
      · rw [if_pos c11] at H
        have c11b0 : ((wrap64 (t118)) == t119) = true := beq_iff_eq.mpr c11
        have c11b1 : ((wrap64 (t118)) != t119) = false := bne_eq_false_iff_eq.mpr c11
        clear c11
        replace H := Option.bind_eq_some_iff.mp H
        obtain ⟨t120, A120, H⟩ := H
        replace H : ((psalteryref01_Mul.f (wrap64 (a0)) (wrap64 (a2)) 15).bind fun t121 => (if t120 = t121 then ((fix_Mul31.f a0 a1).bind fun t122 => ((psalteryref01_Mul.f (wrap64 (a0)) (wrap64 (a1)) 31).bind fun t123 => (if t122 = t123 then ((fix_Spare.f a0).bind fun t124 => ((psalteryref01_Spare.f k a0).bind fun t125 => (some (t124 == t125)))) else (some false)))) else (some false))) = some r := H
        have A12 := Aside0.mk A120
        clear A120
        replace H := Option.bind_eq_some_iff.mp H
        obtain ⟨t121, A130, H⟩ := H
        replace H : (if t120 = t121 then ((fix_Mul31.f a0 a1).bind fun t122 => ((psalteryref01_Mul.f (wrap64 (a0)) (wrap64 (a1)) 31).bind fun t123 => (if t122 = t123 then ((fix_Spare.f a0).bind fun t124 => ((psalteryref01_Spare.f k a0).bind fun t125 => (some (t124 == t125)))) else (some false)))) else (some false)) = some r := H
        have A13 := Aside0.mk A130
        clear A130
        by_cases c14 : t120 = t121
        · rw [if_pos c14] at H
          have c14b0 : (t120 == t121) = true := beq_iff_eq.mpr c14
          have c14b1 : (t120 != t121) = false := bne_eq_false_iff_eq.mpr c14
          clear c14
          replace H := Option.bind_eq_some_iff.mp H
          obtain ⟨t122, A150, H⟩ := H
          replace H : ((psalteryref01_Mul.f (wrap64 (a0)) (wrap64 (a1)) 31).bind fun t123 => (if t122 = t123 then ((fix_Spare.f a0).bind fun t124 => ((psalteryref01_Spare.f k a0).bind fun t125 => (some (t124 == t125)))) else (some false))) = some r := H
          have A15 := Aside0.mk A150
          clear A150
          replace H := Option.bind_eq_some_iff.mp H
          obtain ⟨t123, A160, H⟩ := H
          replace H : (if t122 = t123 then ((fix_Spare.f a0).bind fun t124 => ((psalteryref01_Spare.f k a0).bind fun t125 => (some (t124 == t125)))) else (some false)) = some r := H
          have A16 := Aside0.mk A160
          clear A160
          by_cases c17 : t122 = t123
          · rw [if_pos c17] at H
            have c17b0 : (t122 == t123) = true := beq_iff_eq.mpr c17
            have c17b1 : (t122 != t123) = false := bne_eq_false_iff_eq.mpr c17
            clear c17
            replace H := Option.bind_eq_some_iff.mp H
            obtain ⟨t124, A180, H⟩ := H
            replace H : ((psalteryref01_Spare.f k a0).bind fun t125 => (some (t124 == t125))) = some r := H
            have A18 := Aside0.mk A180
            clear A180
            replace H := Option.bind_eq_some_iff.mp H
            obtain ⟨t125, A190, H⟩ := H
            replace H : (some (t124 == t125)) = some r := H
            have A19 := Aside0.mk A190
            clear A190
            obtain rfl := Option.some.inj H
            go_enter Try.func3, Try.ntmps3
            go_wp2_with (first | ((with_reducible refine gate_callee (f := 10) rfl ?_); refine goesL_ (some 9) rfl rfl Try.func10 (by kernel_rfl) rfl #[] rfl (by (try simp only [List.map_toArray, List.map_cons, List.map_nil]); first | done | rfl | (simp only [List.length_drop, List.length_take]; rfl)) ?_; (with_reducible refine (psalterylaw01_alive.calls  true _ A4.out).mono ?_); rintro e w' ⟨rfl, ⟨nd, rfl⟩⟩; refine ⟨_, rfl, ?_⟩) | ((with_reducible refine gate_callee (f := 11) rfl ?_); refine goesL_ (some 17) rfl rfl Try.func11 (by kernel_rfl) rfl #[.int .i32 a0, .int .i32 a1] rfl (by (try simp only [List.map_toArray, List.map_cons, List.map_nil]); first | done | rfl | (simp only [List.length_drop, List.length_take]; rfl)) ?_; (with_reducible refine (fix_Add.calls a0 a1 t116 _ A6.out).mono ?_); rintro e w' ⟨rfl, ⟨nd, rfl⟩⟩; refine ⟨_, rfl, ?_⟩) | ((with_reducible refine gate_callee (f := 12) rfl ?_); refine goesL_ (some 22) rfl rfl Try.func12 (by kernel_rfl) rfl #[.int .i64 (wrap64 ((wrap64 (a0)) + (wrap64 (a1)))), .int .i64 32] rfl (by (try simp only [List.map_toArray, List.map_cons, List.map_nil]); first | done | rfl | (simp only [List.length_drop, List.length_take]; rfl)) ?_; (with_reducible refine (psalteryref01_Sat.calls (wrap64 ((wrap64 (a0)) + (wrap64 (a1)))) 32 t117 _ A7.out).mono ?_); rintro e w' ⟨rfl, ⟨nd, rfl⟩⟩; refine ⟨_, rfl, ?_⟩) | (go_at_call 13; (with_reducible refine (fix_Sub.calls a0 a1 t118 _ A9.out).mono ?_); rintro e w' ⟨rfl, ⟨nd, rfl⟩⟩) | (go_at_call 12; (with_reducible refine (psalteryref01_Sat.calls (wrap64 ((wrap64 (a0)) - (wrap64 (a1)))) 32 t119 _ A10.out).mono ?_); rintro e w' ⟨rfl, ⟨nd, rfl⟩⟩) | (go_at_call 14; (with_reducible refine (fix_Mul15.calls a0 a2 t120 _ A12.out).mono ?_); rintro e w' ⟨rfl, ⟨nd, rfl⟩⟩) | (go_at_call 15; (with_reducible refine (psalteryref01_Mul.calls (wrap64 (a0)) (wrap64 (a2)) 15 t121 _ A13.out).mono ?_); rintro e w' ⟨rfl, ⟨nd, rfl⟩⟩) | (go_at_call 16; (with_reducible refine (fix_Mul31.calls a0 a1 t122 _ A15.out).mono ?_); rintro e w' ⟨rfl, ⟨nd, rfl⟩⟩) | (go_at_call 15; (with_reducible refine (psalteryref01_Mul.calls (wrap64 (a0)) (wrap64 (a1)) 31 t123 _ A16.out).mono ?_); rintro e w' ⟨rfl, ⟨nd, rfl⟩⟩) | (go_at_call 17; (with_reducible refine (fix_Spare.calls a0 t124 _ A18.out).mono ?_); rintro e w' ⟨rfl, ⟨nd, rfl⟩⟩) | (go_at_call 18; (with_reducible refine (psalteryref01_Spare.calls k a0 t125 _ A19.out).mono ?_); rintro e w' ⟨rfl, ⟨nd, rfl⟩⟩))
            go_ret
            exact ⟨by first | rfl | (simp; done) | (simp [*]; done), by repeat (first | exact Drawn0.refl _ | apply Drawn0.step)⟩
          · rw [if_neg c17] at H
            have c17b0 : (t122 == t123) = false := beq_eq_false_iff_ne.mpr c17
            have c17b1 : (t122 != t123) = true := bne_iff_ne.mpr c17
            obtain rfl := Option.some.inj H
            go_enter Try.func3, Try.ntmps3
            go_wp2_with (first | ((with_reducible refine gate_callee (f := 10) rfl ?_); refine goesL_ (some 9) rfl rfl Try.func10 (by kernel_rfl) rfl #[] rfl (by (try simp only [List.map_toArray, List.map_cons, List.map_nil]); first | done | rfl | (simp only [List.length_drop, List.length_take]; rfl)) ?_; (with_reducible refine (psalterylaw01_alive.calls  true _ A4.out).mono ?_); rintro e w' ⟨rfl, ⟨nd, rfl⟩⟩; refine ⟨_, rfl, ?_⟩) | ((with_reducible refine gate_callee (f := 11) rfl ?_); refine goesL_ (some 17) rfl rfl Try.func11 (by kernel_rfl) rfl #[.int .i32 a0, .int .i32 a1] rfl (by (try simp only [List.map_toArray, List.map_cons, List.map_nil]); first | done | rfl | (simp only [List.length_drop, List.length_take]; rfl)) ?_; (with_reducible refine (fix_Add.calls a0 a1 t116 _ A6.out).mono ?_); rintro e w' ⟨rfl, ⟨nd, rfl⟩⟩; refine ⟨_, rfl, ?_⟩) | ((with_reducible refine gate_callee (f := 12) rfl ?_); refine goesL_ (some 22) rfl rfl Try.func12 (by kernel_rfl) rfl #[.int .i64 (wrap64 ((wrap64 (a0)) + (wrap64 (a1)))), .int .i64 32] rfl (by (try simp only [List.map_toArray, List.map_cons, List.map_nil]); first | done | rfl | (simp only [List.length_drop, List.length_take]; rfl)) ?_; (with_reducible refine (psalteryref01_Sat.calls (wrap64 ((wrap64 (a0)) + (wrap64 (a1)))) 32 t117 _ A7.out).mono ?_); rintro e w' ⟨rfl, ⟨nd, rfl⟩⟩; refine ⟨_, rfl, ?_⟩) | (go_at_call 13; (with_reducible refine (fix_Sub.calls a0 a1 t118 _ A9.out).mono ?_); rintro e w' ⟨rfl, ⟨nd, rfl⟩⟩) | (go_at_call 12; (with_reducible refine (psalteryref01_Sat.calls (wrap64 ((wrap64 (a0)) - (wrap64 (a1)))) 32 t119 _ A10.out).mono ?_); rintro e w' ⟨rfl, ⟨nd, rfl⟩⟩) | (go_at_call 14; (with_reducible refine (fix_Mul15.calls a0 a2 t120 _ A12.out).mono ?_); rintro e w' ⟨rfl, ⟨nd, rfl⟩⟩) | (go_at_call 15; (with_reducible refine (psalteryref01_Mul.calls (wrap64 (a0)) (wrap64 (a2)) 15 t121 _ A13.out).mono ?_); rintro e w' ⟨rfl, ⟨nd, rfl⟩⟩) | (go_at_call 16; (with_reducible refine (fix_Mul31.calls a0 a1 t122 _ A15.out).mono ?_); rintro e w' ⟨rfl, ⟨nd, rfl⟩⟩) | (go_at_call 15; (with_reducible refine (psalteryref01_Mul.calls (wrap64 (a0)) (wrap64 (a1)) 31 t123 _ A16.out).mono ?_); rintro e w' ⟨rfl, ⟨nd, rfl⟩⟩))
            go_ret
            exact ⟨by first | rfl | (simp; done) | (simp [*]; done), by repeat (first | exact Drawn0.refl _ | apply Drawn0.step)⟩
        · rw [if_neg c14] at H
          have c14b0 : (t120 == t121) = false := beq_eq_false_iff_ne.mpr c14
          have c14b1 : (t120 != t121) = true := bne_iff_ne.mpr c14
          obtain rfl := Option.some.inj H
          go_enter Try.func3, Try.ntmps3
          go_wp2_with (first | ((with_reducible refine gate_callee (f := 10) rfl ?_); refine goesL_ (some 9) rfl rfl Try.func10 (by kernel_rfl) rfl #[] rfl (by (try simp only [List.map_toArray, List.map_cons, List.map_nil]); first | done | rfl | (simp only [List.length_drop, List.length_take]; rfl)) ?_; (with_reducible refine (psalterylaw01_alive.calls  true _ A4.out).mono ?_); rintro e w' ⟨rfl, ⟨nd, rfl⟩⟩; refine ⟨_, rfl, ?_⟩) | ((with_reducible refine gate_callee (f := 11) rfl ?_); refine goesL_ (some 17) rfl rfl Try.func11 (by kernel_rfl) rfl #[.int .i32 a0, .int .i32 a1] rfl (by (try simp only [List.map_toArray, List.map_cons, List.map_nil]); first | done | rfl | (simp only [List.length_drop, List.length_take]; rfl)) ?_; (with_reducible refine (fix_Add.calls a0 a1 t116 _ A6.out).mono ?_); rintro e w' ⟨rfl, ⟨nd, rfl⟩⟩; refine ⟨_, rfl, ?_⟩) | ((with_reducible refine gate_callee (f := 12) rfl ?_); refine goesL_ (some 22) rfl rfl Try.func12 (by kernel_rfl) rfl #[.int .i64 (wrap64 ((wrap64 (a0)) + (wrap64 (a1)))), .int .i64 32] rfl (by (try simp only [List.map_toArray, List.map_cons, List.map_nil]); first | done | rfl | (simp only [List.length_drop, List.length_take]; rfl)) ?_; (with_reducible refine (psalteryref01_Sat.calls (wrap64 ((wrap64 (a0)) + (wrap64 (a1)))) 32 t117 _ A7.out).mono ?_); rintro e w' ⟨rfl, ⟨nd, rfl⟩⟩; refine ⟨_, rfl, ?_⟩) | (go_at_call 13; (with_reducible refine (fix_Sub.calls a0 a1 t118 _ A9.out).mono ?_); rintro e w' ⟨rfl, ⟨nd, rfl⟩⟩) | (go_at_call 12; (with_reducible refine (psalteryref01_Sat.calls (wrap64 ((wrap64 (a0)) - (wrap64 (a1)))) 32 t119 _ A10.out).mono ?_); rintro e w' ⟨rfl, ⟨nd, rfl⟩⟩) | (go_at_call 14; (with_reducible refine (fix_Mul15.calls a0 a2 t120 _ A12.out).mono ?_); rintro e w' ⟨rfl, ⟨nd, rfl⟩⟩) | (go_at_call 15; (with_reducible refine (psalteryref01_Mul.calls (wrap64 (a0)) (wrap64 (a2)) 15 t121 _ A13.out).mono ?_); rintro e w' ⟨rfl, ⟨nd, rfl⟩⟩))
          go_ret
          exact ⟨by first | rfl | (simp; done) | (simp [*]; done), by repeat (first | exact Drawn0.refl _ | apply Drawn0.step)⟩
      · rw [if_neg c11] at H
        have c11b0 : ((wrap64 (t118)) == t119) = false := beq_eq_false_iff_ne.mpr c11
        have c11b1 : ((wrap64 (t118)) != t119) = true := bne_iff_ne.mpr c11
        obtain rfl := Option.some.inj H
        go_enter Try.func3, Try.ntmps3
        go_wp2_with (first | ((with_reducible refine gate_callee (f := 10) rfl ?_); refine goesL_ (some 9) rfl rfl Try.func10 (by kernel_rfl) rfl #[] rfl (by (try simp only [List.map_toArray, List.map_cons, List.map_nil]); first | done | rfl | (simp only [List.length_drop, List.length_take]; rfl)) ?_; (with_reducible refine (psalterylaw01_alive.calls  true _ A4.out).mono ?_); rintro e w' ⟨rfl, ⟨nd, rfl⟩⟩; refine ⟨_, rfl, ?_⟩) | ((with_reducible refine gate_callee (f := 11) rfl ?_); refine goesL_ (some 17) rfl rfl Try.func11 (by kernel_rfl) rfl #[.int .i32 a0, .int .i32 a1] rfl (by (try simp only [List.map_toArray, List.map_cons, List.map_nil]); first | done | rfl | (simp only [List.length_drop, List.length_take]; rfl)) ?_; (with_reducible refine (fix_Add.calls a0 a1 t116 _ A6.out).mono ?_); rintro e w' ⟨rfl, ⟨nd, rfl⟩⟩; refine ⟨_, rfl, ?_⟩) | ((with_reducible refine gate_callee (f := 12) rfl ?_); refine goesL_ (some 22) rfl rfl Try.func12 (by kernel_rfl) rfl #[.int .i64 (wrap64 ((wrap64 (a0)) + (wrap64 (a1)))), .int .i64 32] rfl (by (try simp only [List.map_toArray, List.map_cons, List.map_nil]); first | done | rfl | (simp only [List.length_drop, List.length_take]; rfl)) ?_; (with_reducible refine (psalteryref01_Sat.calls (wrap64 ((wrap64 (a0)) + (wrap64 (a1)))) 32 t117 _ A7.out).mono ?_); rintro e w' ⟨rfl, ⟨nd, rfl⟩⟩; refine ⟨_, rfl, ?_⟩) | (go_at_call 13; (with_reducible refine (fix_Sub.calls a0 a1 t118 _ A9.out).mono ?_); rintro e w' ⟨rfl, ⟨nd, rfl⟩⟩) | (go_at_call 12; (with_reducible refine (psalteryref01_Sat.calls (wrap64 ((wrap64 (a0)) - (wrap64 (a1)))) 32 t119 _ A10.out).mono ?_); rintro e w' ⟨rfl, ⟨nd, rfl⟩⟩))
        go_ret
        exact ⟨by first | rfl | (simp; done) | (simp [*]; done), by repeat (first | exact Drawn0.refl _ | apply Drawn0.step)⟩
    · rw [if_neg c8] at H
      have c8b0 : ((wrap64 (t116)) == t117) = false := beq_eq_false_iff_ne.mpr c8
      have c8b1 : ((wrap64 (t116)) != t117) = true := bne_iff_ne.mpr c8
      obtain rfl := Option.some.inj H
      go_enter Try.func3, Try.ntmps3
      go_wp2_with (first | ((with_reducible refine gate_callee (f := 10) rfl ?_); refine goesL_ (some 9) rfl rfl Try.func10 (by kernel_rfl) rfl #[] rfl (by (try simp only [List.map_toArray, List.map_cons, List.map_nil]); first | done | rfl | (simp only [List.length_drop, List.length_take]; rfl)) ?_; (with_reducible refine (psalterylaw01_alive.calls  true _ A4.out).mono ?_); rintro e w' ⟨rfl, ⟨nd, rfl⟩⟩; refine ⟨_, rfl, ?_⟩) | ((with_reducible refine gate_callee (f := 11) rfl ?_); refine goesL_ (some 17) rfl rfl Try.func11 (by kernel_rfl) rfl #[.int .i32 a0, .int .i32 a1] rfl (by (try simp only [List.map_toArray, List.map_cons, List.map_nil]); first | done | rfl | (simp only [List.length_drop, List.length_take]; rfl)) ?_; (with_reducible refine (fix_Add.calls a0 a1 t116 _ A6.out).mono ?_); rintro e w' ⟨rfl, ⟨nd, rfl⟩⟩; refine ⟨_, rfl, ?_⟩) | ((with_reducible refine gate_callee (f := 12) rfl ?_); refine goesL_ (some 22) rfl rfl Try.func12 (by kernel_rfl) rfl #[.int .i64 (wrap64 ((wrap64 (a0)) + (wrap64 (a1)))), .int .i64 32] rfl (by (try simp only [List.map_toArray, List.map_cons, List.map_nil]); first | done | rfl | (simp only [List.length_drop, List.length_take]; rfl)) ?_; (with_reducible refine (psalteryref01_Sat.calls (wrap64 ((wrap64 (a0)) + (wrap64 (a1)))) 32 t117 _ A7.out).mono ?_); rintro e w' ⟨rfl, ⟨nd, rfl⟩⟩; refine ⟨_, rfl, ?_⟩))
      go_ret
      exact ⟨by first | rfl | (simp; done) | (simp [*]; done), by repeat (first | exact Drawn0.refl _ | apply Drawn0.step)⟩
  · replace c5 := Bool.eq_false_iff.mpr c5
    subst c5
    have H1 : (some false) = some r := by rw [if_neg (show ¬ (false = true) by decide)] at H; exact H
    clear H
    have H := H1
    clear H1
    obtain rfl := Option.some.inj H
    go_enter Try.func3, Try.ntmps3
    go_wp2_with (first | ((with_reducible refine gate_callee (f := 10) rfl ?_); refine goesL_ (some 9) rfl rfl Try.func10 (by kernel_rfl) rfl #[] rfl (by (try simp only [List.map_toArray, List.map_cons, List.map_nil]); first | done | rfl | (simp only [List.length_drop, List.length_take]; rfl)) ?_; (with_reducible refine (psalterylaw01_alive.calls  false _ A4.out).mono ?_); rintro e w' ⟨rfl, ⟨nd, rfl⟩⟩; refine ⟨_, rfl, ?_⟩))
    go_ret
    exact ⟨by first | rfl | (simp; done) | (simp [*]; done), by repeat (first | exact Drawn0.refl _ | apply Drawn0.step)⟩

/-- THE ONE PURE STATEMENT of psalterylaw01_FixReckons: yours. -/
def psalterylaw01_FixReckons.Pure : Prop := ∀ (a0 : Int) (a1 : Int) (a2 : Int), (Lit.int .i32 a0).wf = true → (Lit.int .i32 a1).wf = true → (Lit.int .i16 a2).wf = true → ∃ k, psalterylaw01_FixReckons.f k a0 a1 a2 = some true
theorem psalterylaw01_FixReckons.walk (P : psalterylaw01_FixReckons.Pure) (a0 : Int) (a1 : Int) (a2 : Int) (w : World) (w0 : (Lit.int .i32 a0).wf = true) (w1 : (Lit.int .i32 a1).wf = true) (w2 : (Lit.int .i16 a2).wf = true) :
    Calls Try.prog 3 #[.int .i32 a0, .int .i32 a1, .int .i16 a2] w fun e w' => e = .returned (.bool true) ∧ Below w.heap.size w w' := by
  obtain ⟨k, h⟩ := P a0 a1 a2 w0 w1 w2
  refine (psalterylaw01_FixReckons.calls k a0 a1 a2 true w h).mono ?_
  rintro e w' ⟨rfl, hd⟩
  exact ⟨rfl, hd.below⟩

end Go.Proofs.Ytojlgjdebokelaa.PFixReckons
