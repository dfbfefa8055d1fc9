-- Written by wip/myprint.py, a program of this session's, over the kit's print and this session's given texts. Not trusted: Lean checks it.
import Derived.Test.YtojlgjdebokelabDoorPTunerPartsx0
import Derived.Test.YtojlgjdebokelabDoorPTunerPartsx1
namespace Go.Proofs.YtojlgjdebokelabDoor.PTunerParts
open Go.RowKit Go.Proofs.YtojlgjdebokelabDoorW.PrintWords Go.Proofs.YtojlgjdebokelabDoorW.PrintLast Go.Proofs.YtojlgjdebokelabDoorW.PrintMore
attribute [local go_sem] max2_int min2_int max_two min_two max_three min_three max_four min_four   -- for this text's walks alone
set_option linter.unusedVariables false
set_option linter.unusedSimpArgs false

/-! ### psalteryref37_Strongest: function 11 -/
def psalteryref37_Strongest.l0 : Nat → List Int → Int → Int → Int → Option (Int)
  | 0, _, _, _, _ => none
  | k + 1, x0, x1, x5, x6 => if x6 ≥ 1 then (if x5 = 0 then (psalteryref37_Strongest.l0 k x0 x1 x6 (wrap64 (x6 - 1))) else ((psalteryref37_Power.f x0 x6 x1).bind fun t138 => ((psalteryref37_Power.f x0 x5 x1).bind fun t139 => (if t138 ≥ t139 then (psalteryref37_Strongest.l0 k x0 x1 x6 (wrap64 (x6 - 1))) else (psalteryref37_Strongest.l0 k x0 x1 x5 (wrap64 (x6 - 1))))))) else (some x5)
def psalteryref37_Strongest.f (k : Nat) (l0 : List Int) (a1 : Int) : Option (Int) := psalteryref37_Strongest.l0 k l0 a1 0 (wrap64 (Int.tdiv a1 2))
theorem psalteryref37_Strongest.mono_l : ∀ k, (∀ y0 y1 y2 y3, LeO (psalteryref37_Strongest.l0 k y0 y1 y2 y3) (psalteryref37_Strongest.l0 (k + 1) y0 y1 y2 y3))
  | 0 => fun _ _ _ _ r h => by simp [psalteryref37_Strongest.l0] at h
  | k + 1 => by
    have ih0 := psalteryref37_Strongest.mono_l k
    · intro y0 y1 y2 y3
      unfold psalteryref37_Strongest.l0
      repeat' first
      | (with_reducible exact ih0 _ _ _ _)
      | (with_reducible exact LeO.refl _)
      | (with_reducible exact LeO.none _)
      | (with_reducible refine LeO.ite ?_ ?_)
      | (with_reducible refine LeO.bind ?_ (fun _ => ?_))
      | exact ih0 _ _ _ _
      | exact LeO.none _
      | refine LeO.ite ?_ ?_
      | refine LeO.bind ?_ (fun _ => ?_)
theorem psalteryref37_Strongest.mono : ∀ a0 a1 k, LeO (psalteryref37_Strongest.f k a0 a1) (psalteryref37_Strongest.f (k + 1) a0 a1) := by
  intro a0 a1 k
  have ih0 := psalteryref37_Strongest.mono_l k
  unfold psalteryref37_Strongest.f
  repeat' first
      | (with_reducible exact ih0 _ _ _ _)
      | (with_reducible exact LeO.refl _)
      | (with_reducible exact LeO.none _)
      | (with_reducible refine LeO.ite ?_ ?_)
      | (with_reducible refine LeO.bind ?_ (fun _ => ?_))
      | exact ih0 _ _ _ _
      | exact LeO.none _
      | refine LeO.ite ?_ ?_
      | refine LeO.bind ?_ (fun _ => ?_)
set_option maxHeartbeats 8000000 in
set_option maxRecDepth 100000 in
theorem psalteryref37_Strongest.calls (k : Nat) (A0 : Option Addr) (c0 : Nat) (l0 : List Int) (a1 : Int) (r : Int) (w : World) (hr0 : Kd.C (Kd.int .i16) w A0 l0.length l0) (hc0 : l0.length ≤ c0) (h : psalteryref37_Strongest.f k l0 a1 = some r) :
    Calls Tryd.prog 11 #[.slice A0 l0.length c0, .int .i64 a1] w fun e w' => e = .returned (.int .i64 r) ∧ Drawn0 w w' := by
  have HR0 := Aside0.mk hr0
  have HC0 := Aside0.mk hc0
  clear hr0 hc0
  have H : (psalteryref37_Strongest.l0 k l0 a1 0 (wrap64 (Int.tdiv a1 2))) = some r := h
  clear h
  have H' := Aside0.mk H
  clear H
  go_enter Tryd.func11, Tryd.ntmps11
  go_wp2
  go_loopg [5, 6] k (fun kq v5 v6 w' => ∃ (x5_1 : Int) (x6_1 : Int), v5 = .int .i64 x5_1 ∧ v6 = .int .i64 x6_1 ∧ Aside0 (psalteryref37_Strongest.l0 kq l0 a1 x5_1 x6_1 = some r) ∧ Aside0 (kq ≤ k) ∧ Drawn0 w w')
  case atStart => exact ⟨(0), (wrap64 (Int.tdiv a1 2)), (by first | rfl | (simp; done) | (simp [*]; done)), (by first | rfl | (simp; done) | (simp [*]; done)), H', ⟨Nat.le_refl _⟩, by repeat (first | exact Drawn0.refl _ | apply Drawn0.step)⟩
  case round =>
    clear H'
    try clear c1
    try clear p2
    obtain ⟨x5_1, x6_1, rfl, rfl, HA, HK1, ⟨m1, rfl⟩⟩ := hrel
    cases gk with
    | zero => exact absurd HA.out (by simp [psalteryref37_Strongest.l0])
    | succ k1 =>
      have H := HA.out
      clear HA
      simp only [psalteryref37_Strongest.l0] at H
      by_cases c3 : x6_1 ≥ 1
      · rw [if_pos c3] at H
        have c3b0 : decide (1 ≤ x6_1) = true := decide_eq_true c3
        clear c3
        by_cases c4 : x5_1 = 0
        · rw [if_pos c4] at H
          have c4b0 : (x5_1 == 0) = true := beq_iff_eq.mpr c4
          have c4b1 : (x5_1 != 0) = false := bne_eq_false_iff_eq.mpr c4
          clear c4
          have H' := Aside0.mk H
          clear H
          go_wp2
          go_roundg k1
          case measure => have := HK1.out; omega
          case rel => exact ⟨(x6_1), (wrap64 (x6_1 - 1)), (by first | rfl | (simp; done) | (simp [*]; done)), (by first | rfl | (simp; done) | (simp [*]; done)), H', ⟨by have := HK1.out; omega⟩, by repeat (first | exact Drawn0.refl _ | apply Drawn0.step)⟩
        · rw [if_neg c4] at H
          have c4b0 : (x5_1 == 0) = false := beq_eq_false_iff_ne.mpr c4
          have c4b1 : (x5_1 != 0) = true := bne_iff_ne.mpr c4
          replace H := Option.bind_eq_some_iff.mp H
          obtain ⟨t138, A50, H⟩ := H
          replace H : ((psalteryref37_Power.f l0 x5_1 a1).bind fun t139 => (if t138 ≥ t139 then (psalteryref37_Strongest.l0 k1 l0 a1 x6_1 (wrap64 (x6_1 - 1))) else (psalteryref37_Strongest.l0 k1 l0 a1 x5_1 (wrap64 (x6_1 - 1))))) = some r := H
          have A5 := Aside0.mk A50
          clear A50
          replace H := Option.bind_eq_some_iff.mp H
          obtain ⟨t139, A60, H⟩ := H
          replace H : (if t138 ≥ t139 then (psalteryref37_Strongest.l0 k1 l0 a1 x6_1 (wrap64 (x6_1 - 1))) else (psalteryref37_Strongest.l0 k1 l0 a1 x5_1 (wrap64 (x6_1 - 1)))) = some r := H
          have A6 := Aside0.mk A60
          clear A60
          by_cases c7 : t138 ≥ t139
          · rw [if_pos c7] at H
            have c7b0 : decide (t139 ≤ t138) = true := decide_eq_true c7
            clear c7
            have H' := Aside0.mk H
            clear H
            go_wp2_with (first | (go_at_call 9; (with_reducible refine (psalteryref37_Power.calls _ _ l0 x6_1 a1 t138 _ ?side1 ?side2 A5.out).mono ?_); (case side1 => repeat (first | exact HR0.out | (with_reducible refine Kd.C_alloc ?_ _) | (with_reducible refine Kd.C_drewN ?_ _) | (with_reducible refine Kd.C_drew ?_))); (case side2 => exact HC0.out); rintro e w' ⟨rfl, ⟨nd, rfl⟩⟩) | (go_at_call 9; (with_reducible refine (psalteryref37_Power.calls _ _ l0 x5_1 a1 t139 _ ?side1 ?side2 A6.out).mono ?_); (case side1 => repeat (first | exact HR0.out | (with_reducible refine Kd.C_alloc ?_ _) | (with_reducible refine Kd.C_drewN ?_ _) | (with_reducible refine Kd.C_drew ?_))); (case side2 => exact HC0.out); rintro e w' ⟨rfl, ⟨nd, rfl⟩⟩))
            go_roundg k1
            case measure => have := HK1.out; omega
            case rel => exact ⟨(x6_1), (wrap64 (x6_1 - 1)), (by first | rfl | (simp; done) | (simp [*]; done)), (by first | rfl | (simp; done) | (simp [*]; done)), H', ⟨by have := HK1.out; omega⟩, by repeat (first | exact Drawn0.refl _ | apply Drawn0.step)⟩
          · rw [if_neg c7] at H
            have c7b0 : decide (t139 ≤ t138) = false := decide_eq_false c7
            clear c7
            have H' := Aside0.mk H
            clear H
            go_wp2_with (first | (go_at_call 9; (with_reducible refine (psalteryref37_Power.calls _ _ l0 x6_1 a1 t138 _ ?side1 ?side2 A5.out).mono ?_); (case side1 => repeat (first | exact HR0.out | (with_reducible refine Kd.C_alloc ?_ _) | (with_reducible refine Kd.C_drewN ?_ _) | (with_reducible refine Kd.C_drew ?_))); (case side2 => exact HC0.out); rintro e w' ⟨rfl, ⟨nd, rfl⟩⟩) | (go_at_call 9; (with_reducible refine (psalteryref37_Power.calls _ _ l0 x5_1 a1 t139 _ ?side1 ?side2 A6.out).mono ?_); (case side1 => repeat (first | exact HR0.out | (with_reducible refine Kd.C_alloc ?_ _) | (with_reducible refine Kd.C_drewN ?_ _) | (with_reducible refine Kd.C_drew ?_))); (case side2 => exact HC0.out); rintro e w' ⟨rfl, ⟨nd, rfl⟩⟩))
            go_roundg k1
            case measure => have := HK1.out; omega
            case rel => exact ⟨(x5_1), (wrap64 (x6_1 - 1)), (by first | rfl | (simp; done) | (simp [*]; done)), (by first | rfl | (simp; done) | (simp [*]; done)), H', ⟨by have := HK1.out; omega⟩, by repeat (first | exact Drawn0.refl _ | apply Drawn0.step)⟩
      · rw [if_neg c3] at H
        have c3b0 : decide (1 ≤ x6_1) = false := decide_eq_false c3
        clear c3
        obtain rfl := Option.some.inj H
        go_wp2
        go_ret
        exact ⟨by first | rfl | (simp; done) | (simp [*]; done), by repeat (first | exact Drawn0.refl _ | apply Drawn0.step)⟩

/-! ### psalterylaw37_TunerParts: function 3 -/
mutual
def psalterylaw37_TunerParts.j0 : Nat → List Int → Int → Int → Bool → Option (Bool)
  | 0, _, _, _, _ => none
  | k + 1, x0, x1, x2, x34 => if x34 = true then (some true) else ((tuner_Parts.f k x0 x1 x2).bind fun bt141 => ((tuner_Power.f k x0 x1 x2).bind fun bt144 => ((psalteryref37_May.f x0 x1 x2).bind fun t146 => (if bt141.2.2 = t146 then (psalterylaw37_TunerParts.j1 k x0 x1 x2 bt141.1 bt141.2.1 bt144.1 t146 (bt144.2 != t146)) else (psalterylaw37_TunerParts.j1 k x0 x1 x2 bt141.1 bt141.2.1 bt144.1 t146 true)))))
def psalterylaw37_TunerParts.j1 : Nat → List Int → Int → Int → Int → Int → Int → Int → Bool → Option (Bool)
  | 0, _, _, _, _, _, _, _, _ => none
  | k + 1, x0, x1, x2, x7, x8, x10, x12, x61 => if x61 = true then (some false) else (if x12 = 0 then ((psalteryref37_Parts.f x0 x1 x2).bind fun bt147 => (if x7 = bt147.1 then (if x8 = bt147.2 then ((psalteryref37_Power.f x0 x1 x2).bind fun t149 => (if x10 = t149 then (psalterylaw37_TunerParts.j2 k x0 x2) else (some false))) else (some false)) else (some false))) else (if x7 = 0 then (if x8 = 0 then (if x10 = 0 then (psalterylaw37_TunerParts.j2 k x0 x2) else (some false)) else (some false)) else (some false)))
def psalterylaw37_TunerParts.j2 : Nat → List Int → Int → Option (Bool)
  | 0, _, _ => none
  | k + 1, x0, x2 => (tuner_Strongest.f k x0 x2).bind fun bt150 => ((psalteryref37_May.f x0 0 x2).bind fun t152 => (if t152 = 0 then (if bt150.2 = 0 then ((psalteryref37_Strongest.f k x0 x2).bind fun t153 => (some (bt150.1 == t153))) else (some false)) else (if bt150.1 = 0 then (some (bt150.2 == t152)) else (some false))))
end
def psalterylaw37_TunerParts.f (k : Nat) (l0 : List Int) (a1 : Int) (a2 : Int) : Option (Bool) := (psalterylaw37_alive.f).bind fun t140 => (if t140 = true then (if (l0.length : Int) > 200 then (if (l0.length : Int) ≤ 4096 then (psalterylaw37_TunerParts.j0 k l0 a1 a2 true) else (if a2 > 100 then (psalterylaw37_TunerParts.j0 k l0 a1 a2 (decide (a2 ≤ 4096))) else (psalterylaw37_TunerParts.j0 k l0 a1 a2 false))) else (if a2 > 100 then (psalterylaw37_TunerParts.j0 k l0 a1 a2 (decide (a2 ≤ 4096))) else (psalterylaw37_TunerParts.j0 k l0 a1 a2 false))) else (some false))
theorem psalterylaw37_TunerParts.mono_l : ∀ k, (∀ y0 y1 y2 y3, LeO (psalterylaw37_TunerParts.j0 k y0 y1 y2 y3) (psalterylaw37_TunerParts.j0 (k + 1) y0 y1 y2 y3)) ∧ (∀ y0 y1 y2 y3 y4 y5 y6 y7, LeO (psalterylaw37_TunerParts.j1 k y0 y1 y2 y3 y4 y5 y6 y7) (psalterylaw37_TunerParts.j1 (k + 1) y0 y1 y2 y3 y4 y5 y6 y7)) ∧ (∀ y0 y1, LeO (psalterylaw37_TunerParts.j2 k y0 y1) (psalterylaw37_TunerParts.j2 (k + 1) y0 y1))
  | 0 => ⟨fun _ _ _ _ r h => by simp [psalterylaw37_TunerParts.j0] at h, fun _ _ _ _ _ _ _ _ r h => by simp [psalterylaw37_TunerParts.j1] at h, fun _ _ r h => by simp [psalterylaw37_TunerParts.j2] at h⟩
  | k + 1 => by
    obtain ⟨ih0, ih1, ih2⟩ := psalterylaw37_TunerParts.mono_l k
    refine ⟨?_, ?_, ?_⟩
    · intro y0 y1 y2 y3
      unfold psalterylaw37_TunerParts.j0
      repeat' first
      | (with_reducible exact ih0 _ _ _ _)
      | (with_reducible exact ih1 _ _ _ _ _ _ _ _)
      | (with_reducible exact ih2 _ _)
      | (with_reducible exact psalteryref37_Strongest.mono _ _ _)
      | (with_reducible exact tuner_Parts.mono _ _ _ _)
      | (with_reducible exact tuner_Power.mono _ _ _ _)
      | (with_reducible exact tuner_Strongest.mono _ _ _)
      | (with_reducible exact LeO.refl _)
      | (with_reducible exact LeO.none _)
      | (with_reducible refine LeO.ite ?_ ?_)
      | (with_reducible refine LeO.bind ?_ (fun _ => ?_))
      | exact ih0 _ _ _ _
      | exact ih1 _ _ _ _ _ _ _ _
      | exact ih2 _ _
      | exact psalteryref37_Strongest.mono _ _ _
      | exact tuner_Parts.mono _ _ _ _
      | exact tuner_Power.mono _ _ _ _
      | exact tuner_Strongest.mono _ _ _
      | exact LeO.none _
      | refine LeO.ite ?_ ?_
      | refine LeO.bind ?_ (fun _ => ?_)
    · intro y0 y1 y2 y3 y4 y5 y6 y7
      unfold psalterylaw37_TunerParts.j1
      repeat' first
      | (with_reducible exact ih0 _ _ _ _)
      | (with_reducible exact ih1 _ _ _ _ _ _ _ _)
      | (with_reducible exact ih2 _ _)
      | (with_reducible exact psalteryref37_Strongest.mono _ _ _)
      | (with_reducible exact tuner_Parts.mono _ _ _ _)
      | (with_reducible exact tuner_Power.mono _ _ _ _)
      | (with_reducible exact tuner_Strongest.mono _ _ _)
      | (with_reducible exact LeO.refl _)
      | (with_reducible exact LeO.none _)
      | (with_reducible refine LeO.ite ?_ ?_)
      | (with_reducible refine LeO.bind ?_ (fun _ => ?_))
      | exact ih0 _ _ _ _
      | exact ih1 _ _ _ _ _ _ _ _
      | exact ih2 _ _
      | exact psalteryref37_Strongest.mono _ _ _
      | exact tuner_Parts.mono _ _ _ _
      | exact tuner_Power.mono _ _ _ _
      | exact tuner_Strongest.mono _ _ _
      | exact LeO.none _
      | refine LeO.ite ?_ ?_
      | refine LeO.bind ?_ (fun _ => ?_)
    · intro y0 y1
      unfold psalterylaw37_TunerParts.j2
      repeat' first
      | (with_reducible exact ih0 _ _ _ _)
      | (with_reducible exact ih1 _ _ _ _ _ _ _ _)
      | (with_reducible exact ih2 _ _)
      | (with_reducible exact psalteryref37_Strongest.mono _ _ _)
      | (with_reducible exact tuner_Parts.mono _ _ _ _)
      | (with_reducible exact tuner_Power.mono _ _ _ _)
      | (with_reducible exact tuner_Strongest.mono _ _ _)
      | (with_reducible exact LeO.refl _)
      | (with_reducible exact LeO.none _)
      | (with_reducible refine LeO.ite ?_ ?_)
      | (with_reducible refine LeO.bind ?_ (fun _ => ?_))
      | exact ih0 _ _ _ _
      | exact ih1 _ _ _ _ _ _ _ _
      | exact ih2 _ _
      | exact psalteryref37_Strongest.mono _ _ _
      | exact tuner_Parts.mono _ _ _ _
      | exact tuner_Power.mono _ _ _ _
      | exact tuner_Strongest.mono _ _ _
      | exact LeO.none _
      | refine LeO.ite ?_ ?_
      | refine LeO.bind ?_ (fun _ => ?_)
theorem psalterylaw37_TunerParts.mono : ∀ a0 a1 a2 k, LeO (psalterylaw37_TunerParts.f k a0 a1 a2) (psalterylaw37_TunerParts.f (k + 1) a0 a1 a2) := by
  intro a0 a1 a2 k
  obtain ⟨ih0, ih1, ih2⟩ := psalterylaw37_TunerParts.mono_l k
  unfold psalterylaw37_TunerParts.f
  repeat' first
      | (with_reducible exact ih0 _ _ _ _)
      | (with_reducible exact ih1 _ _ _ _ _ _ _ _)
      | (with_reducible exact ih2 _ _)
      | (with_reducible exact psalteryref37_Strongest.mono _ _ _)
      | (with_reducible exact tuner_Parts.mono _ _ _ _)
      | (with_reducible exact tuner_Power.mono _ _ _ _)
      | (with_reducible exact tuner_Strongest.mono _ _ _)
      | (with_reducible exact LeO.refl _)
      | (with_reducible exact LeO.none _)
      | (with_reducible refine LeO.ite ?_ ?_)
      | (with_reducible refine LeO.bind ?_ (fun _ => ?_))
      | exact ih0 _ _ _ _
      | exact ih1 _ _ _ _ _ _ _ _
      | exact ih2 _ _
      | exact psalteryref37_Strongest.mono _ _ _
      | exact tuner_Parts.mono _ _ _ _
      | exact tuner_Power.mono _ _ _ _
      | exact tuner_Strongest.mono _ _ _
      | exact LeO.none _
      | refine LeO.ite ?_ ?_
      | refine LeO.bind ?_ (fun _ => ?_)
set_option maxHeartbeats 8000000 in
set_option maxRecDepth 100000 in
theorem psalterylaw37_TunerParts.calls (k : Nat) (A0 : Option Addr) (c0 : Nat) (l0 : List Int) (a1 : Int) (a2 : Int) (r : Bool) (w : World) (hr0 : Kd.C (Kd.int .i16) w A0 l0.length l0) (hc0 : l0.length ≤ c0) (h : psalterylaw37_TunerParts.f k l0 a1 a2 = some r) :
    Calls Tryd.prog 3 #[.slice A0 l0.length c0, .int .i64 a1, .int .i64 a2] w fun e w' => e = .returned (.bool r) ∧ Below w.heap.size w w' := by
  have HR0 := Aside0.mk hr0
  have HC0 := Aside0.mk hc0
  clear hr0 hc0
  have HB := Aside0.mk (Below.refl w.heap.size w)
  have H : ((psalterylaw37_alive.f).bind fun t140 => (if t140 = true then (if (l0.length : Int) > 200 then (if (l0.length : Int) ≤ 4096 then (psalterylaw37_TunerParts.j0 k l0 a1 a2 true) else (if a2 > 100 then (psalterylaw37_TunerParts.j0 k l0 a1 a2 (decide (a2 ≤ 4096))) else (psalterylaw37_TunerParts.j0 k l0 a1 a2 false))) else (if a2 > 100 then (psalterylaw37_TunerParts.j0 k l0 a1 a2 (decide (a2 ≤ 4096))) else (psalterylaw37_TunerParts.j0 k l0 a1 a2 false))) else (some false))) = some r := h
  clear h
  replace H := Option.bind_eq_some_iff.mp H
  obtain ⟨t140, A40, H⟩ := H
  replace H : (if t140 = true then (if (l0.length : Int) > 200 then (if (l0.length : Int) ≤ 4096 then (psalterylaw37_TunerParts.j0 k l0 a1 a2 true) else (if a2 > 100 then (psalterylaw37_TunerParts.j0 k l0 a1 a2 (decide (a2 ≤ 4096))) else (psalterylaw37_TunerParts.j0 k l0 a1 a2 false))) else (if a2 > 100 then (psalterylaw37_TunerParts.j0 k l0 a1 a2 (decide (a2 ≤ 4096))) else (psalterylaw37_TunerParts.j0 k l0 a1 a2 false))) else (some false)) = some r := H
  have A4 := Aside0.mk A40
  clear A40
  by_cases c5 : t140 = true
  · subst c5
    have H1 : (if (l0.length : Int) > 200 then (if (l0.length : Int) ≤ 4096 then (psalterylaw37_TunerParts.j0 k l0 a1 a2 true) else (if a2 > 100 then (psalterylaw37_TunerParts.j0 k l0 a1 a2 (decide (a2 ≤ 4096))) else (psalterylaw37_TunerParts.j0 k l0 a1 a2 false))) else (if a2 > 100 then (psalterylaw37_TunerParts.j0 k l0 a1 a2 (decide (a2 ≤ 4096))) else (psalterylaw37_TunerParts.j0 k l0 a1 a2 false))) = some r := by rw [if_pos rfl] at H; exact H
    clear H
    have H := H1
    clear H1
    have HC6 := Aside0.mk H
    clear H
    go_enter Tryd.func3, Tryd.ntmps3
    go_upto_region 3 with (first | ((with_reducible refine gate_callee (f := 4) rfl ?_); refine goesL_ (some 17) rfl rfl Tryd.func4 (by kernel_rfl) rfl #[] rfl (by (try simp only [List.map_toArray, List.map_cons, List.map_nil]); first | done | rfl | (simp only [List.length_drop, List.length_take]; rfl)) ?_; (with_reducible refine (psalterylaw37_alive.calls  true _ A4.out).mono ?_); rintro e w7 ⟨rfl, hb⟩; refine ⟨_, rfl, ?_⟩; have n0_ := Aside0.mk (below_step (by repeat (first | (with_reducible first | exact HB.out | apply below_alloc | apply pw_below_drewN | apply below_drew1) | exact HB.out)) hb); clear HB; have HB := n0_; clear n0_; (try clear hb); (try clear hb2); (try clear hk); (try clear hi)))
    (try simp only [Act.put, List.setIfInBounds_toArray, List.set_cons_zero, List.set_cons_succ])
    go_cut [34] (fun v34 wc => ∃ (kq : Nat) (x34_5 : Bool), v34 = .bool x34_5 ∧ Aside0 (psalterylaw37_TunerParts.j0 kq l0 a1 a2 x34_5 = some r) ∧ Aside0 (kq ≤ k) ∧ Aside0 (Below w.heap.size w wc))
    case first =>
      have H := HC6.out
      clear HC6
      by_cases c8 : (l0.length : Int) > 200
      · rw [if_pos c8] at H
        have c8b0 : decide (200 < (l0.length : Int)) = true := decide_eq_true c8
        have c8b1 : decide (200 < l0.length) = true := decide_eq_true (by omega)
        clear c8
        (first | rw [c8b0] | (simp only [i64_w, i32_w]; rw [c8b0]) | skip)
        by_cases c9 : (l0.length : Int) ≤ 4096
        · rw [if_pos c9] at H
          have c9b0 : decide ((l0.length : Int) ≤ 4096) = true := decide_eq_true c9
          have c9b1 : decide (l0.length ≤ 4096) = true := decide_eq_true (by omega)
          clear c9
          have H' := Aside0.mk H
          clear H
          go_wp2
          go_meet
          case rel => exact ⟨_, (true), (by first | rfl | (simp; done) | (simp [*]; done)), H', ⟨by first | omega | exact Nat.le_refl _⟩, ⟨by repeat (first | (with_reducible first | exact HB.out | apply below_alloc | apply pw_below_drewN | apply below_drew1) | exact HB.out)⟩⟩
        · rw [if_neg c9] at H
          have c9b0 : decide ((l0.length : Int) ≤ 4096) = false := decide_eq_false c9
          have c9b1 : decide (l0.length ≤ 4096) = false := decide_eq_false (by omega)
          clear c9
          by_cases c10 : a2 > 100
          · rw [if_pos c10] at H
            have c10b0 : decide (100 < a2) = true := decide_eq_true c10
            clear c10
            have H' := Aside0.mk H
            clear H
            go_wp2
            go_meet
            case rel => exact ⟨_, (decide (a2 ≤ 4096)), (by first | rfl | (simp; done) | (simp [*]; done)), H', ⟨by first | omega | exact Nat.le_refl _⟩, ⟨by repeat (first | (with_reducible first | exact HB.out | apply below_alloc | apply pw_below_drewN | apply below_drew1) | exact HB.out)⟩⟩
          · rw [if_neg c10] at H
            have c10b0 : decide (100 < a2) = false := decide_eq_false c10
            clear c10
            have H' := Aside0.mk H
            clear H
            go_wp2
            go_meet
            case rel => exact ⟨_, (false), (by first | rfl | (simp; done) | (simp [*]; done)), H', ⟨by first | omega | exact Nat.le_refl _⟩, ⟨by repeat (first | (with_reducible first | exact HB.out | apply below_alloc | apply pw_below_drewN | apply below_drew1) | exact HB.out)⟩⟩
      · rw [if_neg c8] at H
        have c8b0 : decide (200 < (l0.length : Int)) = false := decide_eq_false c8
        have c8b1 : decide (200 < l0.length) = false := decide_eq_false (by omega)
        clear c8
        (first | rw [c8b0] | (simp only [i64_w, i32_w]; rw [c8b0]) | skip)
        by_cases c11 : a2 > 100
        · rw [if_pos c11] at H
          have c11b0 : decide (100 < a2) = true := decide_eq_true c11
          clear c11
          have H' := Aside0.mk H
          clear H
          go_wp2
          go_meet
          case rel => exact ⟨_, (decide (a2 ≤ 4096)), (by first | rfl | (simp; done) | (simp [*]; done)), H', ⟨by first | omega | exact Nat.le_refl _⟩, ⟨by repeat (first | (with_reducible first | exact HB.out | apply below_alloc | apply pw_below_drewN | apply below_drew1) | exact HB.out)⟩⟩
        · rw [if_neg c11] at H
          have c11b0 : decide (100 < a2) = false := decide_eq_false c11
          clear c11
          have H' := Aside0.mk H
          clear H
          go_wp2
          go_meet
          case rel => exact ⟨_, (false), (by first | rfl | (simp; done) | (simp [*]; done)), H', ⟨by first | omega | exact Nat.le_refl _⟩, ⟨by repeat (first | (with_reducible first | exact HB.out | apply below_alloc | apply pw_below_drewN | apply below_drew1) | exact HB.out)⟩⟩
    case rest =>
      clear HC6
      try clear c1
      try clear p2
      try clear c3
      try clear c4
      try clear c5
      try clear c8
      try clear c8b0
      try clear c8b1
      try clear c9
      try clear c9b0
      try clear c9b1
      try clear c10
      try clear c10b0
      try clear c11
      try clear c11b0
      obtain ⟨kq, x34_5, rfl, HA, HJ5, HB⟩ := hcut
      cases kq with
      | zero => exact absurd HA.out (by simp [psalterylaw37_TunerParts.j0])
      | succ kj5 =>
        have H := HA.out
        clear HA
        simp only [psalterylaw37_TunerParts.j0] at H
        by_cases c12 : x34_5 = true
        · subst c12
          have H1 : (some true) = some r := by rw [if_pos rfl] at H; exact H
          clear H
          have H := H1
          clear H1
          obtain rfl := Option.some.inj H
          go_wp2
          go_ret
          exact ⟨by first | rfl | (simp [errW_none, errW_some] <;> rfl) | (simp [*, errW_none, errW_some] <;> rfl), by repeat (first | (with_reducible first | exact HB.out | apply below_alloc | apply pw_below_drewN | apply below_drew1) | exact HB.out)⟩
        · replace c12 := Bool.eq_false_iff.mpr c12
          subst c12
          have H1 : ((tuner_Parts.f kj5 l0 a1 a2).bind fun bt141 => ((tuner_Power.f kj5 l0 a1 a2).bind fun bt144 => ((psalteryref37_May.f l0 a1 a2).bind fun t146 => (if bt141.2.2 = t146 then (psalterylaw37_TunerParts.j1 kj5 l0 a1 a2 bt141.1 bt141.2.1 bt144.1 t146 (bt144.2 != t146)) else (psalterylaw37_TunerParts.j1 kj5 l0 a1 a2 bt141.1 bt141.2.1 bt144.1 t146 true))))) = some r := by rw [if_neg (show ¬ (false = true) by decide)] at H; exact H
          clear H
          have H := H1
          clear H1
          replace H := Option.bind_eq_some_iff.mp H
          obtain ⟨⟨t141, t142, t143⟩, A130, H⟩ := H
          replace H : ((tuner_Power.f kj5 l0 a1 a2).bind fun bt144 => ((psalteryref37_May.f l0 a1 a2).bind fun t146 => (if t143 = t146 then (psalterylaw37_TunerParts.j1 kj5 l0 a1 a2 t141 t142 bt144.1 t146 (bt144.2 != t146)) else (psalterylaw37_TunerParts.j1 kj5 l0 a1 a2 t141 t142 bt144.1 t146 true)))) = some r := H
          have A13 := Aside0.mk A130
          clear A130
          replace H := Option.bind_eq_some_iff.mp H
          obtain ⟨⟨t144, t145⟩, A140, H⟩ := H
          replace H : ((psalteryref37_May.f l0 a1 a2).bind fun t146 => (if t143 = t146 then (psalterylaw37_TunerParts.j1 kj5 l0 a1 a2 t141 t142 t144 t146 (t145 != t146)) else (psalterylaw37_TunerParts.j1 kj5 l0 a1 a2 t141 t142 t144 t146 true))) = some r := H
          have A14 := Aside0.mk A140
          clear A140
          replace H := Option.bind_eq_some_iff.mp H
          obtain ⟨t146, A150, H⟩ := H
          replace H : (if t143 = t146 then (psalterylaw37_TunerParts.j1 kj5 l0 a1 a2 t141 t142 t144 t146 (t145 != t146)) else (psalterylaw37_TunerParts.j1 kj5 l0 a1 a2 t141 t142 t144 t146 true)) = some r := H
          have A15 := Aside0.mk A150
          clear A150
          have HC16 := Aside0.mk H
          clear H
          go_upto_region 8 with (first | ((with_reducible refine gate_callee (f := 5) rfl ?_); refine goesL_ (some 39) rfl rfl Tryd.func5 (by kernel_rfl) rfl #[.slice A0 l0.length c0, .int .i64 a1, .int .i64 a2] rfl (by (try simp only [List.map_toArray, List.map_cons, List.map_nil]); first | done | rfl | (simp only [List.length_drop, List.length_take]; rfl)) ?_; (with_reducible refine (tuner_Parts.calls kj5 _ _ l0 a1 a2 t141 t142 t143 _ ?side1 ?side2 A13.out).mono ?_); (case side1 => repeat (first | exact (Kd.C_below HR0.out HB.out) | (with_reducible refine Kd.C_alloc ?_ _) | (with_reducible refine Kd.C_drewN ?_ _) | (with_reducible refine Kd.C_drew ?_))); (case side2 => exact HC0.out); rintro e w' ⟨rfl, ⟨nd, rfl⟩⟩; refine ⟨_, rfl, ?_⟩) | ((with_reducible refine gate_callee (f := 6) rfl ?_); refine goesL_ (some 47) rfl rfl Tryd.func6 (by kernel_rfl) rfl #[.slice A0 l0.length c0, .int .i64 a1, .int .i64 a2] rfl (by (try simp only [List.map_toArray, List.map_cons, List.map_nil]); first | done | rfl | (simp only [List.length_drop, List.length_take]; rfl)) ?_; (with_reducible refine (tuner_Power.calls kj5 _ _ l0 a1 a2 t144 t145 _ ?side1 ?side2 A14.out).mono ?_); (case side1 => repeat (first | exact (Kd.C_below HR0.out (by repeat (first | (with_reducible first | exact HB.out | apply below_alloc | apply pw_below_drewN | apply below_drew1) | exact HB.out))) | (with_reducible refine Kd.C_alloc ?_ _) | (with_reducible refine Kd.C_drewN ?_ _) | (with_reducible refine Kd.C_drew ?_))); (case side2 => exact HC0.out); rintro e w' ⟨rfl, ⟨nd, rfl⟩⟩; refine ⟨_, rfl, ?_⟩) | ((with_reducible refine gate_callee (f := 7) rfl ?_); refine goesL_ (some 53) rfl rfl Tryd.func7 (by kernel_rfl) rfl #[.slice A0 l0.length c0, .int .i64 a1, .int .i64 a2] rfl (by (try simp only [List.map_toArray, List.map_cons, List.map_nil]); first | done | rfl | (simp only [List.length_drop, List.length_take]; rfl)) ?_; (with_reducible refine (psalteryref37_May.calls _ _ l0 a1 a2 t146 _ ?side1 ?side2 A15.out).mono ?_); (case side1 => repeat (first | exact (Kd.C_below HR0.out (by repeat (first | (with_reducible first | exact HB.out | apply below_alloc | apply pw_below_drewN | apply below_drew1) | exact HB.out))) | (with_reducible refine Kd.C_alloc ?_ _) | (with_reducible refine Kd.C_drewN ?_ _) | (with_reducible refine Kd.C_drew ?_))); (case side2 => exact HC0.out); rintro e w' ⟨rfl, ⟨nd, rfl⟩⟩; refine ⟨_, rfl, ?_⟩))
          (try simp only [Act.put, List.setIfInBounds_toArray, List.set_cons_zero, List.set_cons_succ])
          go_cut [61] (fun v61 wc => ∃ (kq : Nat) (x61_15 : Bool), v61 = .bool x61_15 ∧ Aside0 (psalterylaw37_TunerParts.j1 kq l0 a1 a2 t141 t142 t144 t146 x61_15 = some r) ∧ Aside0 (kq ≤ kj5) ∧ Aside0 (Below w.heap.size w wc))
          case first =>
            have H := HC16.out
            clear HC16
            by_cases c17 : t143 = t146
            · rw [if_pos c17] at H
              have c17b0 : (t143 == t146) = true := beq_iff_eq.mpr c17
              have c17b1 : (t143 != t146) = false := bne_eq_false_iff_eq.mpr c17
              clear c17
              (first | rw [c17b0] | (simp only [i64_w, i32_w]; rw [c17b0]) | skip)
              have H' := Aside0.mk H
              clear H
              go_wp2
              go_meet
              case rel => exact ⟨_, ((t145 != t146)), (by first | rfl | (simp; done) | (simp [*]; done)), H', ⟨by have := HJ5.out; first | omega | exact Nat.le_refl _⟩, ⟨by repeat (first | (with_reducible first | exact HB.out | apply below_alloc | apply pw_below_drewN | apply below_drew1) | exact HB.out)⟩⟩
            · rw [if_neg c17] at H
              have c17b0 : (t143 == t146) = false := beq_eq_false_iff_ne.mpr c17
              have c17b1 : (t143 != t146) = true := bne_iff_ne.mpr c17
              (first | rw [c17b0] | (simp only [i64_w, i32_w]; rw [c17b0]) | skip)
              have H' := Aside0.mk H
              clear H
              go_wp2
              go_meet
              case rel => exact ⟨_, (true), (by first | rfl | (simp; done) | (simp [*]; done)), H', ⟨by have := HJ5.out; first | omega | exact Nat.le_refl _⟩, ⟨by repeat (first | (with_reducible first | exact HB.out | apply below_alloc | apply pw_below_drewN | apply below_drew1) | exact HB.out)⟩⟩
          case rest =>
            clear HC16
            try clear c1
            try clear p2
            try clear c3
            try clear c4
            try clear c5
            try clear c6
            try clear c7
            try clear c8
            try clear c8b0
            try clear c8b1
            try clear c9
            try clear c9b0
            try clear c9b1
            try clear c10
            try clear c10b0
            try clear c11
            try clear c11b0
            try clear c12
            try clear c17
            try clear c17b0
            try clear c17b1
            try clear p2
            obtain ⟨kq, x61_15, rfl, HA, HJ15, HB⟩ := hcut
            cases kq with
            | zero => exact absurd HA.out (by simp [psalterylaw37_TunerParts.j1])
            | succ kj15 =>
              have H := HA.out
              clear HA
              simp only [psalterylaw37_TunerParts.j1] at H
              by_cases c18 : x61_15 = true
              · subst c18
                have H1 : (some false) = some r := by rw [if_pos rfl] at H; exact H
                clear H
                have H := H1
                clear H1
                obtain rfl := Option.some.inj H
                go_wp2
                go_ret
                exact ⟨by first | rfl | (simp [errW_none, errW_some] <;> rfl) | (simp [*, errW_none, errW_some] <;> rfl), by repeat (first | (with_reducible first | exact HB.out | apply below_alloc | apply pw_below_drewN | apply below_drew1) | exact HB.out)⟩
              · replace c18 := Bool.eq_false_iff.mpr c18
                subst c18
                have H1 : (if t146 = 0 then ((psalteryref37_Parts.f l0 a1 a2).bind fun bt147 => (if t141 = bt147.1 then (if t142 = bt147.2 then ((psalteryref37_Power.f l0 a1 a2).bind fun t149 => (if t144 = t149 then (psalterylaw37_TunerParts.j2 kj15 l0 a2) else (some false))) else (some false)) else (some false))) else (if t141 = 0 then (if t142 = 0 then (if t144 = 0 then (psalterylaw37_TunerParts.j2 kj15 l0 a2) else (some false)) else (some false)) else (some false))) = some r := by rw [if_neg (show ¬ (false = true) by decide)] at H; exact H
                clear H
                have H := H1
                clear H1
                have HC19 := Aside0.mk H
                clear H
                go_upto_if 63 with (fail)
                go_cut [] (fun wc => ∃ (kq : Nat), Aside0 (psalterylaw37_TunerParts.j2 kq l0 a2 = some r) ∧ Aside0 (kq ≤ kj15) ∧ Aside0 (Below w.heap.size w wc))
                case first =>
                  have H := HC19.out
                  clear HC19
                  by_cases c20 : t146 = 0
                  · rw [if_pos c20] at H
                    have c20b0 : (t146 == 0) = true := beq_iff_eq.mpr c20
                    have c20b1 : (t146 != 0) = false := bne_eq_false_iff_eq.mpr c20
                    clear c20
                    (first | rw [c20b0] | (simp only [i64_w, i32_w]; rw [c20b0]) | skip)
                    replace H := Option.bind_eq_some_iff.mp H
                    obtain ⟨⟨t147, t148⟩, A210, H⟩ := H
                    replace H : (if t141 = t147 then (if t142 = t148 then ((psalteryref37_Power.f l0 a1 a2).bind fun t149 => (if t144 = t149 then (psalterylaw37_TunerParts.j2 kj15 l0 a2) else (some false))) else (some false)) else (some false)) = some r := H
                    have A21 := Aside0.mk A210
                    clear A210
                    by_cases c22 : t141 = t147
                    · rw [if_pos c22] at H
                      have c22b0 : (t141 == t147) = true := beq_iff_eq.mpr c22
                      have c22b1 : (t141 != t147) = false := bne_eq_false_iff_eq.mpr c22
                      clear c22
                      by_cases c23 : t142 = t148
                      · rw [if_pos c23] at H
                        have c23b0 : (t142 == t148) = true := beq_iff_eq.mpr c23
                        have c23b1 : (t142 != t148) = false := bne_eq_false_iff_eq.mpr c23
                        clear c23
                        replace H := Option.bind_eq_some_iff.mp H
                        obtain ⟨t149, A240, H⟩ := H
                        replace H : (if t144 = t149 then (psalterylaw37_TunerParts.j2 kj15 l0 a2) else (some false)) = some r := H
                        have A24 := Aside0.mk A240
                        clear A240
                        by_cases c25 : t144 = t149
                        · rw [if_pos c25] at H
                          have c25b0 : (t144 == t149) = true := beq_iff_eq.mpr c25
                          have c25b1 : (t144 != t149) = false := bne_eq_false_iff_eq.mpr c25
                          clear c25
                          have H' := Aside0.mk H
                          clear H
                          go_wp2_with (first | ((with_reducible refine gate_callee (f := 8) rfl ?_); refine goesL_ (some 78) rfl rfl Tryd.func8 (by kernel_rfl) rfl #[.slice A0 l0.length c0, .int .i64 a1, .int .i64 a2] rfl (by (try simp only [List.map_toArray, List.map_cons, List.map_nil]); first | done | rfl | (simp only [List.length_drop, List.length_take]; rfl)) ?_; (with_reducible refine (psalteryref37_Parts.calls _ _ l0 a1 a2 t147 t148 _ ?side1 ?side2 A21.out).mono ?_); (case side1 => repeat (first | exact (Kd.C_below HR0.out HB.out) | (with_reducible refine Kd.C_alloc ?_ _) | (with_reducible refine Kd.C_drewN ?_ _) | (with_reducible refine Kd.C_drew ?_))); (case side2 => exact HC0.out); rintro e w' ⟨rfl, ⟨nd, rfl⟩⟩; refine ⟨_, rfl, ?_⟩) | (go_at_call 9; (with_reducible refine (psalteryref37_Power.calls _ _ l0 a1 a2 t149 _ ?side1 ?side2 A24.out).mono ?_); (case side1 => repeat (first | exact (Kd.C_below HR0.out (by repeat (first | (with_reducible first | exact HB.out | apply below_alloc | apply pw_below_drewN | apply below_drew1) | exact HB.out))) | (with_reducible refine Kd.C_alloc ?_ _) | (with_reducible refine Kd.C_drewN ?_ _) | (with_reducible refine Kd.C_drew ?_))); (case side2 => exact HC0.out); rintro e w' ⟨rfl, ⟨nd, rfl⟩⟩))
                          go_meet
                          case rel => exact ⟨_, H', ⟨by have := HJ5.out; have := HJ15.out; first | omega | exact Nat.le_refl _⟩, ⟨by repeat (first | (with_reducible first | exact HB.out | apply below_alloc | apply pw_below_drewN | apply below_drew1) | exact HB.out)⟩⟩
                        · rw [if_neg c25] at H
                          have c25b0 : (t144 == t149) = false := beq_eq_false_iff_ne.mpr c25
                          have c25b1 : (t144 != t149) = true := bne_iff_ne.mpr c25
                          obtain rfl := Option.some.inj H
                          go_wp2_with (first | ((with_reducible refine gate_callee (f := 8) rfl ?_); refine goesL_ (some 78) rfl rfl Tryd.func8 (by kernel_rfl) rfl #[.slice A0 l0.length c0, .int .i64 a1, .int .i64 a2] rfl (by (try simp only [List.map_toArray, List.map_cons, List.map_nil]); first | done | rfl | (simp only [List.length_drop, List.length_take]; rfl)) ?_; (with_reducible refine (psalteryref37_Parts.calls _ _ l0 a1 a2 t147 t148 _ ?side1 ?side2 A21.out).mono ?_); (case side1 => repeat (first | exact (Kd.C_below HR0.out HB.out) | (with_reducible refine Kd.C_alloc ?_ _) | (with_reducible refine Kd.C_drewN ?_ _) | (with_reducible refine Kd.C_drew ?_))); (case side2 => exact HC0.out); rintro e w' ⟨rfl, ⟨nd, rfl⟩⟩; refine ⟨_, rfl, ?_⟩) | (go_at_call 9; (with_reducible refine (psalteryref37_Power.calls _ _ l0 a1 a2 t149 _ ?side1 ?side2 A24.out).mono ?_); (case side1 => repeat (first | exact (Kd.C_below HR0.out (by repeat (first | (with_reducible first | exact HB.out | apply below_alloc | apply pw_below_drewN | apply below_drew1) | exact HB.out))) | (with_reducible refine Kd.C_alloc ?_ _) | (with_reducible refine Kd.C_drewN ?_ _) | (with_reducible refine Kd.C_drew ?_))); (case side2 => exact HC0.out); rintro e w' ⟨rfl, ⟨nd, rfl⟩⟩))
                          go_ret
                          exact ⟨by first | rfl | (simp [errW_none, errW_some] <;> rfl) | (simp [*, errW_none, errW_some] <;> rfl), by repeat (first | (with_reducible first | exact HB.out | apply below_alloc | apply pw_below_drewN | apply below_drew1) | exact HB.out)⟩
                      · rw [if_neg c23] at H
                        have c23b0 : (t142 == t148) = false := beq_eq_false_iff_ne.mpr c23
                        have c23b1 : (t142 != t148) = true := bne_iff_ne.mpr c23
                        obtain rfl := Option.some.inj H
                        go_wp2_with (first | ((with_reducible refine gate_callee (f := 8) rfl ?_); refine goesL_ (some 78) rfl rfl Tryd.func8 (by kernel_rfl) rfl #[.slice A0 l0.length c0, .int .i64 a1, .int .i64 a2] rfl (by (try simp only [List.map_toArray, List.map_cons, List.map_nil]); first | done | rfl | (simp only [List.length_drop, List.length_take]; rfl)) ?_; (with_reducible refine (psalteryref37_Parts.calls _ _ l0 a1 a2 t147 t148 _ ?side1 ?side2 A21.out).mono ?_); (case side1 => repeat (first | exact (Kd.C_below HR0.out HB.out) | (with_reducible refine Kd.C_alloc ?_ _) | (with_reducible refine Kd.C_drewN ?_ _) | (with_reducible refine Kd.C_drew ?_))); (case side2 => exact HC0.out); rintro e w' ⟨rfl, ⟨nd, rfl⟩⟩; refine ⟨_, rfl, ?_⟩))
                        go_ret
                        exact ⟨by first | rfl | (simp [errW_none, errW_some] <;> rfl) | (simp [*, errW_none, errW_some] <;> rfl), by repeat (first | (with_reducible first | exact HB.out | apply below_alloc | apply pw_below_drewN | apply below_drew1) | exact HB.out)⟩
                    · rw [if_neg c22] at H
                      have c22b0 : (t141 == t147) = false := beq_eq_false_iff_ne.mpr c22
                      have c22b1 : (t141 != t147) = true := bne_iff_ne.mpr c22
                      obtain rfl := Option.some.inj H
                      go_wp2_with (first | ((with_reducible refine gate_callee (f := 8) rfl ?_); refine goesL_ (some 78) rfl rfl Tryd.func8 (by kernel_rfl) rfl #[.slice A0 l0.length c0, .int .i64 a1, .int .i64 a2] rfl (by (try simp only [List.map_toArray, List.map_cons, List.map_nil]); first | done | rfl | (simp only [List.length_drop, List.length_take]; rfl)) ?_; (with_reducible refine (psalteryref37_Parts.calls _ _ l0 a1 a2 t147 t148 _ ?side1 ?side2 A21.out).mono ?_); (case side1 => repeat (first | exact (Kd.C_below HR0.out HB.out) | (with_reducible refine Kd.C_alloc ?_ _) | (with_reducible refine Kd.C_drewN ?_ _) | (with_reducible refine Kd.C_drew ?_))); (case side2 => exact HC0.out); rintro e w' ⟨rfl, ⟨nd, rfl⟩⟩; refine ⟨_, rfl, ?_⟩))
                      go_ret
                      exact ⟨by first | rfl | (simp [errW_none, errW_some] <;> rfl) | (simp [*, errW_none, errW_some] <;> rfl), by repeat (first | (with_reducible first | exact HB.out | apply below_alloc | apply pw_below_drewN | apply below_drew1) | exact HB.out)⟩
                  · rw [if_neg c20] at H
                    have c20b0 : (t146 == 0) = false := beq_eq_false_iff_ne.mpr c20
                    have c20b1 : (t146 != 0) = true := bne_iff_ne.mpr c20
                    (first | rw [c20b0] | (simp only [i64_w, i32_w]; rw [c20b0]) | skip)
                    by_cases c26 : t141 = 0
                    · rw [if_pos c26] at H
                      have c26b0 : (t141 == 0) = true := beq_iff_eq.mpr c26
                      have c26b1 : (t141 != 0) = false := bne_eq_false_iff_eq.mpr c26
                      clear c26
                      by_cases c27 : t142 = 0
                      · rw [if_pos c27] at H
                        have c27b0 : (t142 == 0) = true := beq_iff_eq.mpr c27
                        have c27b1 : (t142 != 0) = false := bne_eq_false_iff_eq.mpr c27
                        clear c27
                        by_cases c28 : t144 = 0
                        · rw [if_pos c28] at H
                          have c28b0 : (t144 == 0) = true := beq_iff_eq.mpr c28
                          have c28b1 : (t144 != 0) = false := bne_eq_false_iff_eq.mpr c28
                          clear c28
                          have H' := Aside0.mk H
                          clear H
                          go_wp2
                          go_meet
                          case rel => exact ⟨_, H', ⟨by have := HJ5.out; have := HJ15.out; first | omega | exact Nat.le_refl _⟩, ⟨by repeat (first | (with_reducible first | exact HB.out | apply below_alloc | apply pw_below_drewN | apply below_drew1) | exact HB.out)⟩⟩
                        · rw [if_neg c28] at H
                          have c28b0 : (t144 == 0) = false := beq_eq_false_iff_ne.mpr c28
                          have c28b1 : (t144 != 0) = true := bne_iff_ne.mpr c28
                          obtain rfl := Option.some.inj H
                          go_wp2
                          go_ret
                          exact ⟨by first | rfl | (simp [errW_none, errW_some] <;> rfl) | (simp [*, errW_none, errW_some] <;> rfl), by repeat (first | (with_reducible first | exact HB.out | apply below_alloc | apply pw_below_drewN | apply below_drew1) | exact HB.out)⟩
                      · rw [if_neg c27] at H
                        have c27b0 : (t142 == 0) = false := beq_eq_false_iff_ne.mpr c27
                        have c27b1 : (t142 != 0) = true := bne_iff_ne.mpr c27
                        obtain rfl := Option.some.inj H
                        go_wp2
                        go_ret
                        exact ⟨by first | rfl | (simp [errW_none, errW_some] <;> rfl) | (simp [*, errW_none, errW_some] <;> rfl), by repeat (first | (with_reducible first | exact HB.out | apply below_alloc | apply pw_below_drewN | apply below_drew1) | exact HB.out)⟩
                    · rw [if_neg c26] at H
                      have c26b0 : (t141 == 0) = false := beq_eq_false_iff_ne.mpr c26
                      have c26b1 : (t141 != 0) = true := bne_iff_ne.mpr c26
                      obtain rfl := Option.some.inj H
                      go_wp2
                      go_ret
                      exact ⟨by first | rfl | (simp [errW_none, errW_some] <;> rfl) | (simp [*, errW_none, errW_some] <;> rfl), by repeat (first | (with_reducible first | exact HB.out | apply below_alloc | apply pw_below_drewN | apply below_drew1) | exact HB.out)⟩
                case rest =>
                  clear HC19
                  try clear c1
                  try clear c2
                  try clear p2
                  try clear c3
                  try clear c4
                  try clear c5
                  try clear c6
                  try clear c7
                  try clear c8
                  try clear c8b0
                  try clear c8b1
                  try clear c9
                  try clear c9b0
                  try clear c9b1
                  try clear c10
                  try clear c10b0
                  try clear c11
                  try clear c11b0
                  try clear c12
                  try clear c17
                  try clear c17b0
                  try clear c17b1
                  try clear c18
                  try clear c20
                  try clear c20b0
                  try clear c20b1
                  try clear c22
                  try clear c22b0
                  try clear c22b1
                  try clear c23
                  try clear c23b0
                  try clear c23b1
                  try clear c25
                  try clear c25b0
                  try clear c25b1
                  try clear c26
                  try clear c26b0
                  try clear c26b1
                  try clear c27
                  try clear c27b0
                  try clear c27b1
                  try clear c28
                  try clear c28b0
                  try clear c28b1
                  try clear p2
                  obtain ⟨kq, HA, HJ18, HB⟩ := hcut
                  cases kq with
                  | zero => exact absurd HA.out (by simp [psalterylaw37_TunerParts.j2])
                  | succ kj18 =>
                    have H := HA.out
                    clear HA
                    simp only [psalterylaw37_TunerParts.j2] at H
                    replace H := Option.bind_eq_some_iff.mp H
                    obtain ⟨⟨t150, t151⟩, A290, H⟩ := H
                    replace H : ((psalteryref37_May.f l0 0 a2).bind fun t152 => (if t152 = 0 then (if t151 = 0 then ((psalteryref37_Strongest.f kj18 l0 a2).bind fun t153 => (some (t150 == t153))) else (some false)) else (if t150 = 0 then (some (t151 == t152)) else (some false)))) = some r := H
                    have A29 := Aside0.mk A290
                    clear A290
                    replace H := Option.bind_eq_some_iff.mp H
                    obtain ⟨t152, A300, H⟩ := H
                    replace H : (if t152 = 0 then (if t151 = 0 then ((psalteryref37_Strongest.f kj18 l0 a2).bind fun t153 => (some (t150 == t153))) else (some false)) else (if t150 = 0 then (some (t151 == t152)) else (some false))) = some r := H
                    have A30 := Aside0.mk A300
                    clear A300
                    by_cases c31 : t152 = 0
                    · rw [if_pos c31] at H
                      have c31b0 : (t152 == 0) = true := beq_iff_eq.mpr c31
                      have c31b1 : (t152 != 0) = false := bne_eq_false_iff_eq.mpr c31
                      clear c31
                      by_cases c32 : t151 = 0
                      · rw [if_pos c32] at H
                        have c32b0 : (t151 == 0) = true := beq_iff_eq.mpr c32
                        have c32b1 : (t151 != 0) = false := bne_eq_false_iff_eq.mpr c32
                        clear c32
                        replace H := Option.bind_eq_some_iff.mp H
                        obtain ⟨t153, A330, H⟩ := H
                        replace H : (some (t150 == t153)) = some r := H
                        have A33 := Aside0.mk A330
                        clear A330
                        obtain rfl := Option.some.inj H
                        go_wp2_with (first | ((with_reducible refine gate_callee (f := 10) rfl ?_); refine goesL_ (some 100) rfl rfl Tryd.func10 (by kernel_rfl) rfl #[.slice A0 l0.length c0, .int .i64 a2] rfl (by (try simp only [List.map_toArray, List.map_cons, List.map_nil]); first | done | rfl | (simp only [List.length_drop, List.length_take]; rfl)) ?_; (with_reducible refine (tuner_Strongest.calls kj18 _ _ l0 a2 t150 t151 _ ?side1 ?side2 A29.out).mono ?_); (case side1 => repeat (first | exact (Kd.C_below HR0.out HB.out) | (with_reducible refine Kd.C_alloc ?_ _) | (with_reducible refine Kd.C_drewN ?_ _) | (with_reducible refine Kd.C_drew ?_))); (case side2 => exact HC0.out); rintro e w' ⟨rfl, ⟨nd, rfl⟩⟩; refine ⟨_, rfl, ?_⟩) | ((with_reducible refine gate_callee (f := 7) rfl ?_); refine goesL_ (some 105) rfl rfl Tryd.func7 (by kernel_rfl) rfl #[.slice A0 l0.length c0, .int .i64 0, .int .i64 a2] rfl (by (try simp only [List.map_toArray, List.map_cons, List.map_nil]); first | done | rfl | (simp only [List.length_drop, List.length_take]; rfl)) ?_; (with_reducible refine (psalteryref37_May.calls _ _ l0 0 a2 t152 _ ?side1 ?side2 A30.out).mono ?_); (case side1 => repeat (first | exact (Kd.C_below HR0.out (by repeat (first | (with_reducible first | exact HB.out | apply below_alloc | apply pw_below_drewN | apply below_drew1) | exact HB.out))) | (with_reducible refine Kd.C_alloc ?_ _) | (with_reducible refine Kd.C_drewN ?_ _) | (with_reducible refine Kd.C_drew ?_))); (case side2 => exact HC0.out); rintro e w' ⟨rfl, ⟨nd, rfl⟩⟩; refine ⟨_, rfl, ?_⟩) | (go_at_call 11; (with_reducible refine (psalteryref37_Strongest.calls kj18 _ _ l0 a2 t153 _ ?side1 ?side2 A33.out).mono ?_); (case side1 => repeat (first | exact (Kd.C_below HR0.out (by repeat (first | (with_reducible first | exact HB.out | apply below_alloc | apply pw_below_drewN | apply below_drew1) | exact HB.out))) | (with_reducible refine Kd.C_alloc ?_ _) | (with_reducible refine Kd.C_drewN ?_ _) | (with_reducible refine Kd.C_drew ?_))); (case side2 => exact HC0.out); rintro e w' ⟨rfl, ⟨nd, rfl⟩⟩))
                        go_ret
                        exact ⟨by first | rfl | (simp [errW_none, errW_some] <;> rfl) | (simp [*, errW_none, errW_some] <;> rfl), by repeat (first | (with_reducible first | exact HB.out | apply below_alloc | apply pw_below_drewN | apply below_drew1) | exact HB.out)⟩
                      · rw [if_neg c32] at H
                        have c32b0 : (t151 == 0) = false := beq_eq_false_iff_ne.mpr c32
                        have c32b1 : (t151 != 0) = true := bne_iff_ne.mpr c32
                        obtain rfl := Option.some.inj H
                        go_wp2_with (first | ((with_reducible refine gate_callee (f := 10) rfl ?_); refine goesL_ (some 100) rfl rfl Tryd.func10 (by kernel_rfl) rfl #[.slice A0 l0.length c0, .int .i64 a2] rfl (by (try simp only [List.map_toArray, List.map_cons, List.map_nil]); first | done | rfl | (simp only [List.length_drop, List.length_take]; rfl)) ?_; (with_reducible refine (tuner_Strongest.calls kj18 _ _ l0 a2 t150 t151 _ ?side1 ?side2 A29.out).mono ?_); (case side1 => repeat (first | exact (Kd.C_below HR0.out HB.out) | (with_reducible refine Kd.C_alloc ?_ _) | (with_reducible refine Kd.C_drewN ?_ _) | (with_reducible refine Kd.C_drew ?_))); (case side2 => exact HC0.out); rintro e w' ⟨rfl, ⟨nd, rfl⟩⟩; refine ⟨_, rfl, ?_⟩) | ((with_reducible refine gate_callee (f := 7) rfl ?_); refine goesL_ (some 105) rfl rfl Tryd.func7 (by kernel_rfl) rfl #[.slice A0 l0.length c0, .int .i64 0, .int .i64 a2] rfl (by (try simp only [List.map_toArray, List.map_cons, List.map_nil]); first | done | rfl | (simp only [List.length_drop, List.length_take]; rfl)) ?_; (with_reducible refine (psalteryref37_May.calls _ _ l0 0 a2 t152 _ ?side1 ?side2 A30.out).mono ?_); (case side1 => repeat (first | exact (Kd.C_below HR0.out (by repeat (first | (with_reducible first | exact HB.out | apply below_alloc | apply pw_below_drewN | apply below_drew1) | exact HB.out))) | (with_reducible refine Kd.C_alloc ?_ _) | (with_reducible refine Kd.C_drewN ?_ _) | (with_reducible refine Kd.C_drew ?_))); (case side2 => exact HC0.out); rintro e w' ⟨rfl, ⟨nd, rfl⟩⟩; refine ⟨_, rfl, ?_⟩))
                        go_ret
                        exact ⟨by first | rfl | (simp [errW_none, errW_some] <;> rfl) | (simp [*, errW_none, errW_some] <;> rfl), by repeat (first | (with_reducible first | exact HB.out | apply below_alloc | apply pw_below_drewN | apply below_drew1) | exact HB.out)⟩
                    · rw [if_neg c31] at H
                      have c31b0 : (t152 == 0) = false := beq_eq_false_iff_ne.mpr c31
                      have c31b1 : (t152 != 0) = true := bne_iff_ne.mpr c31
                      by_cases c34 : t150 = 0
                      · rw [if_pos c34] at H
                        have c34b0 : (t150 == 0) = true := beq_iff_eq.mpr c34
                        have c34b1 : (t150 != 0) = false := bne_eq_false_iff_eq.mpr c34
                        clear c34
                        obtain rfl := Option.some.inj H
                        go_wp2_with (first | ((with_reducible refine gate_callee (f := 10) rfl ?_); refine goesL_ (some 100) rfl rfl Tryd.func10 (by kernel_rfl) rfl #[.slice A0 l0.length c0, .int .i64 a2] rfl (by (try simp only [List.map_toArray, List.map_cons, List.map_nil]); first | done | rfl | (simp only [List.length_drop, List.length_take]; rfl)) ?_; (with_reducible refine (tuner_Strongest.calls kj18 _ _ l0 a2 t150 t151 _ ?side1 ?side2 A29.out).mono ?_); (case side1 => repeat (first | exact (Kd.C_below HR0.out HB.out) | (with_reducible refine Kd.C_alloc ?_ _) | (with_reducible refine Kd.C_drewN ?_ _) | (with_reducible refine Kd.C_drew ?_))); (case side2 => exact HC0.out); rintro e w' ⟨rfl, ⟨nd, rfl⟩⟩; refine ⟨_, rfl, ?_⟩) | ((with_reducible refine gate_callee (f := 7) rfl ?_); refine goesL_ (some 105) rfl rfl Tryd.func7 (by kernel_rfl) rfl #[.slice A0 l0.length c0, .int .i64 0, .int .i64 a2] rfl (by (try simp only [List.map_toArray, List.map_cons, List.map_nil]); first | done | rfl | (simp only [List.length_drop, List.length_take]; rfl)) ?_; (with_reducible refine (psalteryref37_May.calls _ _ l0 0 a2 t152 _ ?side1 ?side2 A30.out).mono ?_); (case side1 => repeat (first | exact (Kd.C_below HR0.out (by repeat (first | (with_reducible first | exact HB.out | apply below_alloc | apply pw_below_drewN | apply below_drew1) | exact HB.out))) | (with_reducible refine Kd.C_alloc ?_ _) | (with_reducible refine Kd.C_drewN ?_ _) | (with_reducible refine Kd.C_drew ?_))); (case side2 => exact HC0.out); rintro e w' ⟨rfl, ⟨nd, rfl⟩⟩; refine ⟨_, rfl, ?_⟩))
                        go_ret
                        exact ⟨by first | rfl | (simp [errW_none, errW_some] <;> rfl) | (simp [*, errW_none, errW_some] <;> rfl), by repeat (first | (with_reducible first | exact HB.out | apply below_alloc | apply pw_below_drewN | apply below_drew1) | exact HB.out)⟩
                      · rw [if_neg c34] at H
                        have c34b0 : (t150 == 0) = false := beq_eq_false_iff_ne.mpr c34
                        have c34b1 : (t150 != 0) = true := bne_iff_ne.mpr c34
                        obtain rfl := Option.some.inj H
                        go_wp2_with (first | ((with_reducible refine gate_callee (f := 10) rfl ?_); refine goesL_ (some 100) rfl rfl Tryd.func10 (by kernel_rfl) rfl #[.slice A0 l0.length c0, .int .i64 a2] rfl (by (try simp only [List.map_toArray, List.map_cons, List.map_nil]); first | done | rfl | (simp only [List.length_drop, List.length_take]; rfl)) ?_; (with_reducible refine (tuner_Strongest.calls kj18 _ _ l0 a2 t150 t151 _ ?side1 ?side2 A29.out).mono ?_); (case side1 => repeat (first | exact (Kd.C_below HR0.out HB.out) | (with_reducible refine Kd.C_alloc ?_ _) | (with_reducible refine Kd.C_drewN ?_ _) | (with_reducible refine Kd.C_drew ?_))); (case side2 => exact HC0.out); rintro e w' ⟨rfl, ⟨nd, rfl⟩⟩; refine ⟨_, rfl, ?_⟩) | ((with_reducible refine gate_callee (f := 7) rfl ?_); refine goesL_ (some 105) rfl rfl Tryd.func7 (by kernel_rfl) rfl #[.slice A0 l0.length c0, .int .i64 0, .int .i64 a2] rfl (by (try simp only [List.map_toArray, List.map_cons, List.map_nil]); first | done | rfl | (simp only [List.length_drop, List.length_take]; rfl)) ?_; (with_reducible refine (psalteryref37_May.calls _ _ l0 0 a2 t152 _ ?side1 ?side2 A30.out).mono ?_); (case side1 => repeat (first | exact (Kd.C_below HR0.out (by repeat (first | (with_reducible first | exact HB.out | apply below_alloc | apply pw_below_drewN | apply below_drew1) | exact HB.out))) | (with_reducible refine Kd.C_alloc ?_ _) | (with_reducible refine Kd.C_drewN ?_ _) | (with_reducible refine Kd.C_drew ?_))); (case side2 => exact HC0.out); rintro e w' ⟨rfl, ⟨nd, rfl⟩⟩; refine ⟨_, rfl, ?_⟩))
                        go_ret
                        exact ⟨by first | rfl | (simp [errW_none, errW_some] <;> rfl) | (simp [*, errW_none, errW_some] <;> rfl), by repeat (first | (with_reducible first | exact HB.out | apply below_alloc | apply pw_below_drewN | apply below_drew1) | exact HB.out)⟩
  · replace c5 := Bool.eq_false_iff.mpr c5
    subst c5
    have H1 : (some false) = some r := by rw [if_neg (show ¬ (false = true) by decide)] at H; exact H
    clear H
    have H := H1
    clear H1
    obtain rfl := Option.some.inj H
    go_enter Tryd.func3, Tryd.ntmps3
    go_wp2_with (first | ((with_reducible refine gate_callee (f := 4) rfl ?_); refine goesL_ (some 17) rfl rfl Tryd.func4 (by kernel_rfl) rfl #[] rfl (by (try simp only [List.map_toArray, List.map_cons, List.map_nil]); first | done | rfl | (simp only [List.length_drop, List.length_take]; rfl)) ?_; (with_reducible refine (psalterylaw37_alive.calls  false _ A4.out).mono ?_); rintro e w35 ⟨rfl, hb⟩; refine ⟨_, rfl, ?_⟩; have n0_ := Aside0.mk (below_step (by repeat (first | (with_reducible first | exact HB.out | apply below_alloc | apply pw_below_drewN | apply below_drew1) | exact HB.out)) hb); clear HB; have HB := n0_; clear n0_; (try clear hb); (try clear hb2); (try clear hk); (try clear hi)))
    go_ret
    exact ⟨by first | rfl | (simp [errW_none, errW_some] <;> rfl) | (simp [*, errW_none, errW_some] <;> rfl), by repeat (first | (with_reducible first | exact HB.out | apply below_alloc | apply pw_below_drewN | apply below_drew1) | exact HB.out)⟩

/-- THE ONE PURE STATEMENT of psalterylaw37_TunerParts: yours. -/
def psalterylaw37_TunerParts.Pure : Prop := ∀ (l0 : List Int) (a1 : Int) (a2 : Int), l0.length ≤ maxLen → l0.length * 2 ≤ 140737488351232 → (∀ x ∈ l0, (Lit.int .i16 x).wf = true) → (Lit.int .i64 a1).wf = true → (Lit.int .i64 a2).wf = true → ∃ k, psalterylaw37_TunerParts.f k l0 a1 a2 = some true
theorem psalterylaw37_TunerParts.walk (P : psalterylaw37_TunerParts.Pure) (a0 : Option Addr) (len0 cap0 : Nat) (z0 : List Int) (a1 : Int) (a2 : Int) (w : World) (w0 : (a0 = none ∧ len0 = 0 ∧ cap0 = 0 ∧ z0 = []) ∨ ∃ x, a0 = some x ∧ len0 ≤ cap0 ∧ cap0 ≤ maxLen ∧ z0.length = cap0 ∧ (∀ i, i < z0.length → w.cell? (x.add i) = some (.int .i16 (z0.getD i 0))) ∧ ∀ n ∈ z0, (Lit.int .i16 n).wf = true) (y0 : len0 * 2 ≤ 140737488351232) (w1 : (Lit.int .i64 a1).wf = true) (w2 : (Lit.int .i64 a2).wf = true) :
    Calls Tryd.prog 3 #[.slice a0 len0 cap0, .int .i64 a1, .int .i64 a2] w fun e w' => e = .returned (.bool true) ∧ Below w.heap.size w w' := by
  obtain ⟨l0, rfl, hr0, hm0, hw0, hc0⟩ := ReadsInt.ofRowC w0
  obtain ⟨k, h⟩ := P l0 a1 a2 hm0 y0 hw0 w1 w2
  refine (psalterylaw37_TunerParts.calls k _ _ l0 a1 a2 true w (Kd.C_of_reads (d := (0 : Int)) (h1 := fun _ => rfl) hr0) hc0 h).mono ?_
  rintro e w' ⟨rfl, hd⟩
  exact ⟨rfl, hd⟩

end Go.Proofs.YtojlgjdebokelabDoor.PTunerParts
