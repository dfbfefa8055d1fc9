import Derived.Test.YtojlgjdebokelabHPa
set_option linter.unusedVariables false
set_option linter.unusedSimpArgs false
namespace Go.Proofs.YtojlgjdebokelabH
open Go.RowKit Go.Proofs.YtojlgjdebokelabW.PrintWords Go.Proofs.YtojlgjdebokelabW.PrintMore Go.Proofs.YtojlgjdebokelabW
def rin (on i : Int) : Prop := 0 ≤ i ∧ i ≤ 16 ∧ (on = 0 → i = 0)
instance (on i : Int) : Decidable (rin on i) := inferInstanceAs (Decidable (_ ∧ _))
def Rok (on i0 i1 i2 i3 : Int) : Prop := rin on i0 ∧ rin on i1 ∧ rin on i2 ∧ rin on i3 ∧ (on = 0 ∨ on = 1)
instance (on i0 i1 i2 i3 : Int) : Decidable (Rok on i0 i1 i2 i3) := inferInstanceAs (Decidable (_ ∧ _))
theorem Rok_iff (on i0 i1 i2 i3 : Int) : Rok on i0 i1 i2 i3 ↔ Fok on i0 i1 i2 i3 := by
  unfold Rok Fok rin fin
  omega

set_option maxRecDepth 100000 in
set_option maxHeartbeats 4000000 in
theorem rcheck_0 (i0 i1 i2 i3 : Int) (r : Bool) (w : World) (hr : r = decide (Rok 0 i0 i1 i2 i3)) :
    Calls Try.prog 35 #[fval 0 i0 i1 i2 i3] w fun e w' => e = .returned (.bool r) ∧ w.grownBy w' none := by
  have hr' : Hid (r = decide (Rok 0 i0 i1 i2 i3)) := hr
  clear hr
  go_enter Try.func35, Try.ntmps35
  go_wp2
  go_loopw [3] (fun i wr => (i = .int .i64 0 ∧ Fil w wr 54 0 i0 i1 i2 i3 ∧ True) ∨ (i = .int .i64 1 ∧ Fil w wr 54 0 i0 i1 i2 i3 ∧ Hid (rin 0 i0) ∧ True) ∨ (i = .int .i64 2 ∧ Fil w wr 54 0 i0 i1 i2 i3 ∧ Hid (rin 0 i0) ∧ Hid (rin 0 i1) ∧ True) ∨ (i = .int .i64 3 ∧ Fil w wr 54 0 i0 i1 i2 i3 ∧ Hid (rin 0 i0) ∧ Hid (rin 0 i1) ∧ Hid (rin 0 i2) ∧ True) ∨ (i = .int .i64 4 ∧ Fil w wr 54 0 i0 i1 i2 i3 ∧ Hid (rin 0 i0) ∧ Hid (rin 0 i1) ∧ Hid (rin 0 i2) ∧ Hid (rin 0 i3) ∧ True)) (fun i _ => 4 - (intOf i).toNat)
  case atStart => exact .inl ⟨rfl, Fil.start w _ _ _ _ _ _, trivial⟩
  case round =>
    rcases hrel with ⟨rfl, hM, hs⟩ | ⟨rfl, hM, hs⟩ | ⟨rfl, hM, hs⟩ | ⟨rfl, hM, hs⟩ | ⟨rfl, hM, hs⟩
    · obtain ⟨d0, d1, d2, d3, d4⟩ := hM.cells
      by_cases h1 : i0 < 0
      · have g1 : decide (i0 < 0) = true := by simpa using h1
        have hbad : Hid (¬ rin 0 i0) := fun h => absurd h.1 (by omega)
        go_wp2
        go_ret
        refine ⟨?_, hM.grown⟩
        have hq : r = false := hr'.trans (decide_eq_false (fun h => hbad h.1))
        rw [hq]
        rfl
      · have g1 : decide (i0 < 0) = false := by simpa using h1
        by_cases h2 : i0 > 16
        · have g2 : decide (i0 > 16) = true := by simpa using h2
          have hbad : Hid (¬ rin 0 i0) := fun h => absurd h.2.1 (by omega)
          go_wp2
          go_ret
          refine ⟨?_, hM.grown⟩
          have hq : r = false := hr'.trans (decide_eq_false (fun h => hbad h.1))
          rw [hq]
          rfl
        · have g2 : decide (i0 > 16) = false := by simpa using h2
          by_cases h3 : i0 = 0
          · have g3 : (i0 != 0) = false := by simpa using h3
            have hgood : Hid (rin 0 i0) := ⟨by omega, by omega, fun _ => h3⟩
            have hh3 := Lib.hid h3
            clear h3
            go_wp2
            go_roundw
            case rel => exact .inr (.inl (⟨rfl, hM, hgood, trivial⟩))
            case measure => simp [intOf]
          · have g3 : (i0 != 0) = true := by simpa using h3
            have hbad : Hid (¬ rin 0 i0) := fun h => absurd (h.2.2 rfl) (by omega)
            clear h3
            go_wp2
            go_ret
            refine ⟨?_, hM.grown⟩
            have hq : r = false := hr'.trans (decide_eq_false (fun h => hbad h.1))
            rw [hq]
            rfl
    · obtain ⟨d0, d1, d2, d3, d4⟩ := hM.cells
      by_cases h1 : i1 < 0
      · have g1 : decide (i1 < 0) = true := by simpa using h1
        have hbad : Hid (¬ rin 0 i1) := fun h => absurd h.1 (by omega)
        go_wp2
        go_ret
        refine ⟨?_, hM.grown⟩
        have hq : r = false := hr'.trans (decide_eq_false (fun h => hbad h.2.1))
        rw [hq]
        rfl
      · have g1 : decide (i1 < 0) = false := by simpa using h1
        by_cases h2 : i1 > 16
        · have g2 : decide (i1 > 16) = true := by simpa using h2
          have hbad : Hid (¬ rin 0 i1) := fun h => absurd h.2.1 (by omega)
          go_wp2
          go_ret
          refine ⟨?_, hM.grown⟩
          have hq : r = false := hr'.trans (decide_eq_false (fun h => hbad h.2.1))
          rw [hq]
          rfl
        · have g2 : decide (i1 > 16) = false := by simpa using h2
          by_cases h3 : i1 = 0
          · have g3 : (i1 != 0) = false := by simpa using h3
            have hgood : Hid (rin 0 i1) := ⟨by omega, by omega, fun _ => h3⟩
            have hh3 := Lib.hid h3
            clear h3
            go_wp2
            go_roundw
            case rel => exact .inr (.inr (.inl (⟨rfl, hM, hs.1, hgood, trivial⟩)))
            case measure => simp [intOf]
          · have g3 : (i1 != 0) = true := by simpa using h3
            have hbad : Hid (¬ rin 0 i1) := fun h => absurd (h.2.2 rfl) (by omega)
            clear h3
            go_wp2
            go_ret
            refine ⟨?_, hM.grown⟩
            have hq : r = false := hr'.trans (decide_eq_false (fun h => hbad h.2.1))
            rw [hq]
            rfl
    · obtain ⟨d0, d1, d2, d3, d4⟩ := hM.cells
      by_cases h1 : i2 < 0
      · have g1 : decide (i2 < 0) = true := by simpa using h1
        have hbad : Hid (¬ rin 0 i2) := fun h => absurd h.1 (by omega)
        go_wp2
        go_ret
        refine ⟨?_, hM.grown⟩
        have hq : r = false := hr'.trans (decide_eq_false (fun h => hbad h.2.2.1))
        rw [hq]
        rfl
      · have g1 : decide (i2 < 0) = false := by simpa using h1
        by_cases h2 : i2 > 16
        · have g2 : decide (i2 > 16) = true := by simpa using h2
          have hbad : Hid (¬ rin 0 i2) := fun h => absurd h.2.1 (by omega)
          go_wp2
          go_ret
          refine ⟨?_, hM.grown⟩
          have hq : r = false := hr'.trans (decide_eq_false (fun h => hbad h.2.2.1))
          rw [hq]
          rfl
        · have g2 : decide (i2 > 16) = false := by simpa using h2
          by_cases h3 : i2 = 0
          · have g3 : (i2 != 0) = false := by simpa using h3
            have hgood : Hid (rin 0 i2) := ⟨by omega, by omega, fun _ => h3⟩
            have hh3 := Lib.hid h3
            clear h3
            go_wp2
            go_roundw
            case rel => exact .inr (.inr (.inr (.inl (⟨rfl, hM, hs.1, hs.2.1, hgood, trivial⟩))))
            case measure => simp [intOf]
          · have g3 : (i2 != 0) = true := by simpa using h3
            have hbad : Hid (¬ rin 0 i2) := fun h => absurd (h.2.2 rfl) (by omega)
            clear h3
            go_wp2
            go_ret
            refine ⟨?_, hM.grown⟩
            have hq : r = false := hr'.trans (decide_eq_false (fun h => hbad h.2.2.1))
            rw [hq]
            rfl
    · obtain ⟨d0, d1, d2, d3, d4⟩ := hM.cells
      by_cases h1 : i3 < 0
      · have g1 : decide (i3 < 0) = true := by simpa using h1
        have hbad : Hid (¬ rin 0 i3) := fun h => absurd h.1 (by omega)
        go_wp2
        go_ret
        refine ⟨?_, hM.grown⟩
        have hq : r = false := hr'.trans (decide_eq_false (fun h => hbad h.2.2.2.1))
        rw [hq]
        rfl
      · have g1 : decide (i3 < 0) = false := by simpa using h1
        by_cases h2 : i3 > 16
        · have g2 : decide (i3 > 16) = true := by simpa using h2
          have hbad : Hid (¬ rin 0 i3) := fun h => absurd h.2.1 (by omega)
          go_wp2
          go_ret
          refine ⟨?_, hM.grown⟩
          have hq : r = false := hr'.trans (decide_eq_false (fun h => hbad h.2.2.2.1))
          rw [hq]
          rfl
        · have g2 : decide (i3 > 16) = false := by simpa using h2
          by_cases h3 : i3 = 0
          · have g3 : (i3 != 0) = false := by simpa using h3
            have hgood : Hid (rin 0 i3) := ⟨by omega, by omega, fun _ => h3⟩
            have hh3 := Lib.hid h3
            clear h3
            go_wp2
            go_roundw
            case rel => exact .inr (.inr (.inr (.inr (⟨rfl, hM, hs.1, hs.2.1, hs.2.2.1, hgood, trivial⟩))))
            case measure => simp [intOf]
          · have g3 : (i3 != 0) = true := by simpa using h3
            have hbad : Hid (¬ rin 0 i3) := fun h => absurd (h.2.2 rfl) (by omega)
            clear h3
            go_wp2
            go_ret
            refine ⟨?_, hM.grown⟩
            have hq : r = false := hr'.trans (decide_eq_false (fun h => hbad h.2.2.2.1))
            rw [hq]
            rfl
    · have d0 := hM.cells.1
      go_wp2
      go_ret
      refine ⟨?_, hM.grown⟩
      have hq : r = true := hr'.trans (decide_eq_true ⟨hs.1, hs.2.1, hs.2.2.1, hs.2.2.2.1, .inl rfl⟩)
      rw [hq]
      rfl

set_option maxRecDepth 100000 in
set_option maxHeartbeats 4000000 in
theorem rcheck_1 (i0 i1 i2 i3 : Int) (r : Bool) (w : World) (hr : r = decide (Rok 1 i0 i1 i2 i3)) :
    Calls Try.prog 35 #[fval 1 i0 i1 i2 i3] w fun e w' => e = .returned (.bool r) ∧ w.grownBy w' none := by
  have hr' : Hid (r = decide (Rok 1 i0 i1 i2 i3)) := hr
  clear hr
  go_enter Try.func35, Try.ntmps35
  go_wp2
  go_loopw [3] (fun i wr => (i = .int .i64 0 ∧ Fil w wr 54 1 i0 i1 i2 i3 ∧ True) ∨ (i = .int .i64 1 ∧ Fil w wr 54 1 i0 i1 i2 i3 ∧ Hid (rin 1 i0) ∧ True) ∨ (i = .int .i64 2 ∧ Fil w wr 54 1 i0 i1 i2 i3 ∧ Hid (rin 1 i0) ∧ Hid (rin 1 i1) ∧ True) ∨ (i = .int .i64 3 ∧ Fil w wr 54 1 i0 i1 i2 i3 ∧ Hid (rin 1 i0) ∧ Hid (rin 1 i1) ∧ Hid (rin 1 i2) ∧ True) ∨ (i = .int .i64 4 ∧ Fil w wr 54 1 i0 i1 i2 i3 ∧ Hid (rin 1 i0) ∧ Hid (rin 1 i1) ∧ Hid (rin 1 i2) ∧ Hid (rin 1 i3) ∧ True)) (fun i _ => 4 - (intOf i).toNat)
  case atStart => exact .inl ⟨rfl, Fil.start w _ _ _ _ _ _, trivial⟩
  case round =>
    rcases hrel with ⟨rfl, hM, hs⟩ | ⟨rfl, hM, hs⟩ | ⟨rfl, hM, hs⟩ | ⟨rfl, hM, hs⟩ | ⟨rfl, hM, hs⟩
    · obtain ⟨d0, d1, d2, d3, d4⟩ := hM.cells
      by_cases h1 : i0 < 0
      · have g1 : decide (i0 < 0) = true := by simpa using h1
        have hbad : Hid (¬ rin 1 i0) := fun h => absurd h.1 (by omega)
        go_wp2
        go_ret
        refine ⟨?_, hM.grown⟩
        have hq : r = false := hr'.trans (decide_eq_false (fun h => hbad h.1))
        rw [hq]
        rfl
      · have g1 : decide (i0 < 0) = false := by simpa using h1
        by_cases h2 : i0 > 16
        · have g2 : decide (i0 > 16) = true := by simpa using h2
          have hbad : Hid (¬ rin 1 i0) := fun h => absurd h.2.1 (by omega)
          go_wp2
          go_ret
          refine ⟨?_, hM.grown⟩
          have hq : r = false := hr'.trans (decide_eq_false (fun h => hbad h.1))
          rw [hq]
          rfl
        · have g2 : decide (i0 > 16) = false := by simpa using h2
          have hgood : Hid (rin 1 i0) := ⟨by omega, by omega, by omega⟩
          go_wp2
          go_roundw
          case rel => exact .inr (.inl (⟨rfl, hM, hgood, trivial⟩))
          case measure => simp [intOf]
    · obtain ⟨d0, d1, d2, d3, d4⟩ := hM.cells
      by_cases h1 : i1 < 0
      · have g1 : decide (i1 < 0) = true := by simpa using h1
        have hbad : Hid (¬ rin 1 i1) := fun h => absurd h.1 (by omega)
        go_wp2
        go_ret
        refine ⟨?_, hM.grown⟩
        have hq : r = false := hr'.trans (decide_eq_false (fun h => hbad h.2.1))
        rw [hq]
        rfl
      · have g1 : decide (i1 < 0) = false := by simpa using h1
        by_cases h2 : i1 > 16
        · have g2 : decide (i1 > 16) = true := by simpa using h2
          have hbad : Hid (¬ rin 1 i1) := fun h => absurd h.2.1 (by omega)
          go_wp2
          go_ret
          refine ⟨?_, hM.grown⟩
          have hq : r = false := hr'.trans (decide_eq_false (fun h => hbad h.2.1))
          rw [hq]
          rfl
        · have g2 : decide (i1 > 16) = false := by simpa using h2
          have hgood : Hid (rin 1 i1) := ⟨by omega, by omega, by omega⟩
          go_wp2
          go_roundw
          case rel => exact .inr (.inr (.inl (⟨rfl, hM, hs.1, hgood, trivial⟩)))
          case measure => simp [intOf]
    · obtain ⟨d0, d1, d2, d3, d4⟩ := hM.cells
      by_cases h1 : i2 < 0
      · have g1 : decide (i2 < 0) = true := by simpa using h1
        have hbad : Hid (¬ rin 1 i2) := fun h => absurd h.1 (by omega)
        go_wp2
        go_ret
        refine ⟨?_, hM.grown⟩
        have hq : r = false := hr'.trans (decide_eq_false (fun h => hbad h.2.2.1))
        rw [hq]
        rfl
      · have g1 : decide (i2 < 0) = false := by simpa using h1
        by_cases h2 : i2 > 16
        · have g2 : decide (i2 > 16) = true := by simpa using h2
          have hbad : Hid (¬ rin 1 i2) := fun h => absurd h.2.1 (by omega)
          go_wp2
          go_ret
          refine ⟨?_, hM.grown⟩
          have hq : r = false := hr'.trans (decide_eq_false (fun h => hbad h.2.2.1))
          rw [hq]
          rfl
        · have g2 : decide (i2 > 16) = false := by simpa using h2
          have hgood : Hid (rin 1 i2) := ⟨by omega, by omega, by omega⟩
          go_wp2
          go_roundw
          case rel => exact .inr (.inr (.inr (.inl (⟨rfl, hM, hs.1, hs.2.1, hgood, trivial⟩))))
          case measure => simp [intOf]
    · obtain ⟨d0, d1, d2, d3, d4⟩ := hM.cells
      by_cases h1 : i3 < 0
      · have g1 : decide (i3 < 0) = true := by simpa using h1
        have hbad : Hid (¬ rin 1 i3) := fun h => absurd h.1 (by omega)
        go_wp2
        go_ret
        refine ⟨?_, hM.grown⟩
        have hq : r = false := hr'.trans (decide_eq_false (fun h => hbad h.2.2.2.1))
        rw [hq]
        rfl
      · have g1 : decide (i3 < 0) = false := by simpa using h1
        by_cases h2 : i3 > 16
        · have g2 : decide (i3 > 16) = true := by simpa using h2
          have hbad : Hid (¬ rin 1 i3) := fun h => absurd h.2.1 (by omega)
          go_wp2
          go_ret
          refine ⟨?_, hM.grown⟩
          have hq : r = false := hr'.trans (decide_eq_false (fun h => hbad h.2.2.2.1))
          rw [hq]
          rfl
        · have g2 : decide (i3 > 16) = false := by simpa using h2
          have hgood : Hid (rin 1 i3) := ⟨by omega, by omega, by omega⟩
          go_wp2
          go_roundw
          case rel => exact .inr (.inr (.inr (.inr (⟨rfl, hM, hs.1, hs.2.1, hs.2.2.1, hgood, trivial⟩))))
          case measure => simp [intOf]
    · have d0 := hM.cells.1
      go_wp2
      go_ret
      refine ⟨?_, hM.grown⟩
      have hq : r = true := hr'.trans (decide_eq_true ⟨hs.1, hs.2.1, hs.2.2.1, hs.2.2.2.1, .inr rfl⟩)
      rw [hq]
      rfl

set_option maxRecDepth 100000 in
set_option maxHeartbeats 4000000 in
theorem rcheck_n (on : Int) (h0 : on ≠ 0) (h1 : on ≠ 1) (i0 i1 i2 i3 : Int) (r : Bool) (w : World) (hr : r = decide (Rok on i0 i1 i2 i3)) :
    Calls Try.prog 35 #[fval on i0 i1 i2 i3] w fun e w' => e = .returned (.bool r) ∧ w.grownBy w' none := by
  have hr' : Hid (r = decide (Rok on i0 i1 i2 i3)) := hr
  clear hr
  have hd0 := Lib.hid h0
  have hd1 := Lib.hid h1
  have g0 : (on == 0) = false := by simpa using h0
  have g1 : (on == 1) = false := by simpa using h1
  clear h0 h1
  go_enter Try.func35, Try.ntmps35
  go_wp2
  go_loopw [3] (fun i wr => (i = .int .i64 0 ∧ Fil w wr 54 on i0 i1 i2 i3 ∧ True) ∨ (i = .int .i64 1 ∧ Fil w wr 54 on i0 i1 i2 i3 ∧ Hid (rin on i0) ∧ True) ∨ (i = .int .i64 2 ∧ Fil w wr 54 on i0 i1 i2 i3 ∧ Hid (rin on i0) ∧ Hid (rin on i1) ∧ True) ∨ (i = .int .i64 3 ∧ Fil w wr 54 on i0 i1 i2 i3 ∧ Hid (rin on i0) ∧ Hid (rin on i1) ∧ Hid (rin on i2) ∧ True) ∨ (i = .int .i64 4 ∧ Fil w wr 54 on i0 i1 i2 i3 ∧ Hid (rin on i0) ∧ Hid (rin on i1) ∧ Hid (rin on i2) ∧ Hid (rin on i3) ∧ True)) (fun i _ => 4 - (intOf i).toNat)
  case atStart => exact .inl ⟨rfl, Fil.start w _ _ _ _ _ _, trivial⟩
  case round =>
    rcases hrel with ⟨rfl, hM, hs⟩ | ⟨rfl, hM, hs⟩ | ⟨rfl, hM, hs⟩ | ⟨rfl, hM, hs⟩ | ⟨rfl, hM, hs⟩
    · obtain ⟨d0, d1, d2, d3, d4⟩ := hM.cells
      by_cases h1 : i0 < 0
      · have g1 : decide (i0 < 0) = true := by simpa using h1
        have hbad : Hid (¬ rin on i0) := fun h => absurd h.1 (by omega)
        go_wp2
        go_ret
        refine ⟨?_, hM.grown⟩
        have hq : r = false := hr'.trans (decide_eq_false (fun h => hbad h.1))
        rw [hq]
        rfl
      · have g1 : decide (i0 < 0) = false := by simpa using h1
        by_cases h2 : i0 > 16
        · have g2 : decide (i0 > 16) = true := by simpa using h2
          have hbad : Hid (¬ rin on i0) := fun h => absurd h.2.1 (by omega)
          go_wp2
          go_ret
          refine ⟨?_, hM.grown⟩
          have hq : r = false := hr'.trans (decide_eq_false (fun h => hbad h.1))
          rw [hq]
          rfl
        · have g2 : decide (i0 > 16) = false := by simpa using h2
          have hgood : Hid (rin on i0) := ⟨by omega, by omega, fun h => absurd h hd0⟩
          go_wp2
          go_roundw
          case rel => exact .inr (.inl (⟨rfl, hM, hgood, trivial⟩))
          case measure => simp [intOf]
    · obtain ⟨d0, d1, d2, d3, d4⟩ := hM.cells
      by_cases h1 : i1 < 0
      · have g1 : decide (i1 < 0) = true := by simpa using h1
        have hbad : Hid (¬ rin on i1) := fun h => absurd h.1 (by omega)
        go_wp2
        go_ret
        refine ⟨?_, hM.grown⟩
        have hq : r = false := hr'.trans (decide_eq_false (fun h => hbad h.2.1))
        rw [hq]
        rfl
      · have g1 : decide (i1 < 0) = false := by simpa using h1
        by_cases h2 : i1 > 16
        · have g2 : decide (i1 > 16) = true := by simpa using h2
          have hbad : Hid (¬ rin on i1) := fun h => absurd h.2.1 (by omega)
          go_wp2
          go_ret
          refine ⟨?_, hM.grown⟩
          have hq : r = false := hr'.trans (decide_eq_false (fun h => hbad h.2.1))
          rw [hq]
          rfl
        · have g2 : decide (i1 > 16) = false := by simpa using h2
          have hgood : Hid (rin on i1) := ⟨by omega, by omega, fun h => absurd h hd0⟩
          go_wp2
          go_roundw
          case rel => exact .inr (.inr (.inl (⟨rfl, hM, hs.1, hgood, trivial⟩)))
          case measure => simp [intOf]
    · obtain ⟨d0, d1, d2, d3, d4⟩ := hM.cells
      by_cases h1 : i2 < 0
      · have g1 : decide (i2 < 0) = true := by simpa using h1
        have hbad : Hid (¬ rin on i2) := fun h => absurd h.1 (by omega)
        go_wp2
        go_ret
        refine ⟨?_, hM.grown⟩
        have hq : r = false := hr'.trans (decide_eq_false (fun h => hbad h.2.2.1))
        rw [hq]
        rfl
      · have g1 : decide (i2 < 0) = false := by simpa using h1
        by_cases h2 : i2 > 16
        · have g2 : decide (i2 > 16) = true := by simpa using h2
          have hbad : Hid (¬ rin on i2) := fun h => absurd h.2.1 (by omega)
          go_wp2
          go_ret
          refine ⟨?_, hM.grown⟩
          have hq : r = false := hr'.trans (decide_eq_false (fun h => hbad h.2.2.1))
          rw [hq]
          rfl
        · have g2 : decide (i2 > 16) = false := by simpa using h2
          have hgood : Hid (rin on i2) := ⟨by omega, by omega, fun h => absurd h hd0⟩
          go_wp2
          go_roundw
          case rel => exact .inr (.inr (.inr (.inl (⟨rfl, hM, hs.1, hs.2.1, hgood, trivial⟩))))
          case measure => simp [intOf]
    · obtain ⟨d0, d1, d2, d3, d4⟩ := hM.cells
      by_cases h1 : i3 < 0
      · have g1 : decide (i3 < 0) = true := by simpa using h1
        have hbad : Hid (¬ rin on i3) := fun h => absurd h.1 (by omega)
        go_wp2
        go_ret
        refine ⟨?_, hM.grown⟩
        have hq : r = false := hr'.trans (decide_eq_false (fun h => hbad h.2.2.2.1))
        rw [hq]
        rfl
      · have g1 : decide (i3 < 0) = false := by simpa using h1
        by_cases h2 : i3 > 16
        · have g2 : decide (i3 > 16) = true := by simpa using h2
          have hbad : Hid (¬ rin on i3) := fun h => absurd h.2.1 (by omega)
          go_wp2
          go_ret
          refine ⟨?_, hM.grown⟩
          have hq : r = false := hr'.trans (decide_eq_false (fun h => hbad h.2.2.2.1))
          rw [hq]
          rfl
        · have g2 : decide (i3 > 16) = false := by simpa using h2
          have hgood : Hid (rin on i3) := ⟨by omega, by omega, fun h => absurd h hd0⟩
          go_wp2
          go_roundw
          case rel => exact .inr (.inr (.inr (.inr (⟨rfl, hM, hs.1, hs.2.1, hs.2.2.1, hgood, trivial⟩))))
          case measure => simp [intOf]
    · have d0 := hM.cells.1
      go_wp2
      go_ret
      refine ⟨?_, hM.grown⟩
      have hq : r = false := hr'.trans (decide_eq_false (fun h => by rcases h.2.2.2.2 with h | h; exact hd0 h; exact hd1 h))
      rw [hq]
      rfl

theorem rcheck_any (on i0 i1 i2 i3 : Int) (w : World) :
    Calls Try.prog 35 #[fval on i0 i1 i2 i3] w fun e w' => e = .returned (.bool (decide (Fok on i0 i1 i2 i3))) ∧ w.grownBy w' none := by
  have he : decide (Fok on i0 i1 i2 i3) = decide (Rok on i0 i1 i2 i3) := decide_eq_decide.mpr (Rok_iff on i0 i1 i2 i3).symm
  by_cases h0 : on = 0
  · subst h0; exact rcheck_0 i0 i1 i2 i3 _ w he
  · by_cases h1 : on = 1
    · subst h1; exact rcheck_1 i0 i1 i2 i3 _ w he
    · exact rcheck_n on h0 h1 i0 i1 i2 i3 _ w he
end Go.Proofs.YtojlgjdebokelabH
