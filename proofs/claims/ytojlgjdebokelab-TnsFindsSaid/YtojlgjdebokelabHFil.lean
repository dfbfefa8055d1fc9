import Derived.Test.YtojlgjdebokelabHUndo
import Derived.Test.YtojlgjdebokelabPLib4x
set_option linter.unusedVariables false
set_option linter.unusedSimpArgs false
namespace Go.Proofs.YtojlgjdebokelabH
open Go.RowKit Go.Proofs.YtojlgjdebokelabW.PrintWords Go.Proofs.YtojlgjdebokelabW.PrintMore

abbrev fval (on i0 i1 i2 i3 : Int) : Value := .agg #[.int .i64 on, .int .i64 i0, .int .i64 i1, .int .i64 i2, .int .i64 i3]
def fobj (t : TypeId) (on i0 i1 i2 i3 : Int) : Obj := .cells #[.int .i64 on, .int .i64 i0, .int .i64 i1, .int .i64 i2, .int .i64 i3] t (0, 0)
/-- A filter in block L. -/
structure Fil (w wr : World) (t : TypeId) (on i0 i1 i2 i3 : Int) : Prop where
  box : wr.heap[w.heap.size]? = some (fobj t on i0 i1 i2 i3)
  grown : w.grownBy wr none
theorem Fil.start (w : World) (t : TypeId) (on i0 i1 i2 i3 : Int) : Fil w (w.alloc (.cells #[.int .i64 on, .int .i64 i0, .int .i64 i1, .int .i64 i2, .int .i64 i3] t)) t on i0 i1 i2 i3 :=
  ⟨heap_alloc_new w _, grown_of_below ((Below.refl _ _).alloc (Nat.le_refl _) _) _⟩
theorem Fil.drew {w wr : World} {t : TypeId} {on i0 i1 i2 i3 : Int} (h : Fil w wr t on i0 i1 i2 i3) (n : Nat) : Fil w (wr.drewN n) t on i0 i1 i2 i3 := ⟨h.box, grown_drewN h.grown n⟩
theorem Fil.drew1 {w wr : World} {t : TypeId} {on i0 i1 i2 i3 : Int} (h : Fil w wr t on i0 i1 i2 i3) : Fil w wr.drew t on i0 i1 i2 i3 := ⟨h.box, h.grown.os, h.grown.tape, h.grown.output, h.grown.size, h.grown.block⟩
theorem Fil.cells {w wr : World} {t : TypeId} {on i0 i1 i2 i3 : Int} (h : Fil w wr t on i0 i1 i2 i3) :
    wr.cell? ⟨w.heap.size, 0, none⟩ = some (.int .i64 on) ∧ wr.cell? ⟨w.heap.size, 1, none⟩ = some (.int .i64 i0) ∧ wr.cell? ⟨w.heap.size, 2, none⟩ = some (.int .i64 i1) ∧ wr.cell? ⟨w.heap.size, 3, none⟩ = some (.int .i64 i2) ∧ wr.cell? ⟨w.heap.size, 4, none⟩ = some (.int .i64 i3) := by
  have hb := h.box
  refine ⟨?_, ?_, ?_, ?_, ?_⟩
  all_goals first
    | simpa using cell_of_row wr w.heap.size 0 _ _ (0, 0) hb
    | simpa using cell_of_row wr w.heap.size 1 _ _ (0, 0) hb
    | simpa using cell_of_row wr w.heap.size 2 _ _ (0, 0) hb
    | simpa using cell_of_row wr w.heap.size 3 _ _ (0, 0) hb
    | simpa using cell_of_row wr w.heap.size 4 _ _ (0, 0) hb
def fin (on i : Int) : Prop := 0 ≤ i ∧ i ≤ 16 * on
instance (on i : Int) : Decidable (fin on i) := inferInstanceAs (Decidable (_ ∧ _))
def Fok (on i0 i1 i2 i3 : Int) : Prop := (on = 0 ∨ on = 1) ∧ fin on i0 ∧ fin on i1 ∧ fin on i2 ∧ fin on i3
instance (on i0 i1 i2 i3 : Int) : Decidable (Fok on i0 i1 i2 i3) := inferInstanceAs (Decidable (_ ∧ _))
set_option maxRecDepth 100000 in
set_option maxHeartbeats 4000000 in
theorem tcheck_any (on i0 i1 i2 i3 r : Int) (w : World) (hr : r = if Fok on i0 i1 i2 i3 then 0 else 1) :
    Calls Try.prog 36 #[fval on i0 i1 i2 i3] w fun e w' => e = .returned (.int .i64 r) ∧ w.grownBy w' none := by
  by_cases hon : on = 0 ∨ on = 1
  case neg =>
    have h0 : on ≠ 0 := fun h => hon (.inl h)
    have h1 : on ≠ 1 := fun h => hon (.inr h)
    have hr : Hid (r = 1) := by show r = 1; rw [hr, if_neg (fun h => hon h.1)]
    have hid0 : Hid (on ≠ 0) := h0
    have hid1 : Hid (on ≠ 1) := h1
    have g0 : (on == 0) = decide (on = 0) := by by_cases h : on = 0 <;> simp [h]
    have g3 : (! (on == 0) && ! (on == 1)) = true := by simp [h0, h1]
    clear hon h0 h1
    go_enter Try.func36, Try.ntmps36
    go_wp2
    · go_ret
      refine ⟨?_, (Fil.start w _ _ _ _ _ _).grown⟩
      rw [show r = 1 from hr]
      rfl
    all_goals
      have hx : (on != 0) = false ∨ (on != 1) = false := by assumption
      exfalso
      rcases hx with hx | hx
      · exact absurd hx (by simpa using (show on ≠ 0 from hid0))
      · exact absurd hx (by simpa using (show on ≠ 1 from hid1))
  case pos =>
    have q0 : ∀ w, (Instr.index 49 (.agg #[.int .i64 i0, .int .i64 i1, .int .i64 i2, .int .i64 i3]) (.int .i64 0)).run Try.prog w = .ok (.int .i64 i0) w := fun _ => by kernel_rfl
    have q1 : ∀ w, (Instr.index 49 (.agg #[.int .i64 i0, .int .i64 i1, .int .i64 i2, .int .i64 i3]) (.int .i64 1)).run Try.prog w = .ok (.int .i64 i1) w := fun _ => by kernel_rfl
    have q2 : ∀ w, (Instr.index 49 (.agg #[.int .i64 i0, .int .i64 i1, .int .i64 i2, .int .i64 i3]) (.int .i64 2)).run Try.prog w = .ok (.int .i64 i2) w := fun _ => by kernel_rfl
    have q3 : ∀ w, (Instr.index 49 (.agg #[.int .i64 i0, .int .i64 i1, .int .i64 i2, .int .i64 i3]) (.int .i64 3)).run Try.prog w = .ok (.int .i64 i3) w := fun _ => by kernel_rfl
    have hr' : Hid (r = if Fok on i0 i1 i2 i3 then 0 else 1) := hr
    clear hr
    rcases hon with rfl | rfl
    · go_enter Try.func36, Try.ntmps36
      go_wp2
      go_loopw [15] (fun i wr => (i = .int .i64 0 ∧ Fil w wr 51 0 i0 i1 i2 i3 ∧ True) ∨ (i = .int .i64 1 ∧ Fil w wr 51 0 i0 i1 i2 i3 ∧ Hid (fin 0 i0) ∧ True) ∨ (i = .int .i64 2 ∧ Fil w wr 51 0 i0 i1 i2 i3 ∧ Hid (fin 0 i0) ∧ Hid (fin 0 i1) ∧ True) ∨ (i = .int .i64 3 ∧ Fil w wr 51 0 i0 i1 i2 i3 ∧ Hid (fin 0 i0) ∧ Hid (fin 0 i1) ∧ Hid (fin 0 i2) ∧ True) ∨ (i = .int .i64 4 ∧ Fil w wr 51 0 i0 i1 i2 i3 ∧ Hid (fin 0 i0) ∧ Hid (fin 0 i1) ∧ Hid (fin 0 i2) ∧ Hid (fin 0 i3) ∧ True)) (fun i _ => 4 - (intOf i).toNat)
      case atStart => exact .inl ⟨rfl, Fil.start w _ _ _ _ _ _, trivial⟩
      case round =>
        rcases hrel with ⟨rfl, hM, hs⟩ | ⟨rfl, hM, hs⟩ | ⟨rfl, hM, hs⟩ | ⟨rfl, hM, hs⟩ | ⟨rfl, hM, hs⟩
        · have d0 := hM.cells.1
          by_cases h1 : i0 < 0
          · have g1 : decide (i0 < 0) = true := by simpa using h1
            have hbad : Hid (¬ fin 0 i0) := fun h => absurd h.1 (by omega)
            go_wp2
            go_ret
            refine ⟨?_, hM.grown⟩
            have hq : r = 1 := hr'.trans (if_neg (fun h => hbad h.2.1))
            rw [hq]
            rfl
          · have g1 : decide (i0 < 0) = false := by simpa using h1
            by_cases h2 : i0 > 0
            · have g2 : decide (i0 > 0) = true := by simpa using h2
              have hbad : Hid (¬ fin 0 i0) := fun h => absurd h.2 (by omega)
              go_wp2
              go_ret
              refine ⟨?_, hM.grown⟩
              have hq : r = 1 := hr'.trans (if_neg (fun h => hbad h.2.1))
              rw [hq]
              rfl
            · have g2 : decide (i0 > 0) = false := by simpa using h2
              have hgood : Hid (fin 0 i0) := ⟨by omega, by omega⟩
              go_wp2
              go_roundw
              case rel => exact .inr (.inl (⟨rfl, hM, hgood, trivial⟩))
              case measure => simp [intOf]
        · have d0 := hM.cells.1
          by_cases h1 : i1 < 0
          · have g1 : decide (i1 < 0) = true := by simpa using h1
            have hbad : Hid (¬ fin 0 i1) := fun h => absurd h.1 (by omega)
            go_wp2
            go_ret
            refine ⟨?_, hM.grown⟩
            have hq : r = 1 := hr'.trans (if_neg (fun h => hbad h.2.2.1))
            rw [hq]
            rfl
          · have g1 : decide (i1 < 0) = false := by simpa using h1
            by_cases h2 : i1 > 0
            · have g2 : decide (i1 > 0) = true := by simpa using h2
              have hbad : Hid (¬ fin 0 i1) := fun h => absurd h.2 (by omega)
              go_wp2
              go_ret
              refine ⟨?_, hM.grown⟩
              have hq : r = 1 := hr'.trans (if_neg (fun h => hbad h.2.2.1))
              rw [hq]
              rfl
            · have g2 : decide (i1 > 0) = false := by simpa using h2
              have hgood : Hid (fin 0 i1) := ⟨by omega, by omega⟩
              go_wp2
              go_roundw
              case rel => exact .inr (.inr (.inl (⟨rfl, hM, hs.1, hgood, trivial⟩)))
              case measure => simp [intOf]
        · have d0 := hM.cells.1
          by_cases h1 : i2 < 0
          · have g1 : decide (i2 < 0) = true := by simpa using h1
            have hbad : Hid (¬ fin 0 i2) := fun h => absurd h.1 (by omega)
            go_wp2
            go_ret
            refine ⟨?_, hM.grown⟩
            have hq : r = 1 := hr'.trans (if_neg (fun h => hbad h.2.2.2.1))
            rw [hq]
            rfl
          · have g1 : decide (i2 < 0) = false := by simpa using h1
            by_cases h2 : i2 > 0
            · have g2 : decide (i2 > 0) = true := by simpa using h2
              have hbad : Hid (¬ fin 0 i2) := fun h => absurd h.2 (by omega)
              go_wp2
              go_ret
              refine ⟨?_, hM.grown⟩
              have hq : r = 1 := hr'.trans (if_neg (fun h => hbad h.2.2.2.1))
              rw [hq]
              rfl
            · have g2 : decide (i2 > 0) = false := by simpa using h2
              have hgood : Hid (fin 0 i2) := ⟨by omega, by omega⟩
              go_wp2
              go_roundw
              case rel => exact .inr (.inr (.inr (.inl (⟨rfl, hM, hs.1, hs.2.1, hgood, trivial⟩))))
              case measure => simp [intOf]
        · have d0 := hM.cells.1
          by_cases h1 : i3 < 0
          · have g1 : decide (i3 < 0) = true := by simpa using h1
            have hbad : Hid (¬ fin 0 i3) := fun h => absurd h.1 (by omega)
            go_wp2
            go_ret
            refine ⟨?_, hM.grown⟩
            have hq : r = 1 := hr'.trans (if_neg (fun h => hbad h.2.2.2.2))
            rw [hq]
            rfl
          · have g1 : decide (i3 < 0) = false := by simpa using h1
            by_cases h2 : i3 > 0
            · have g2 : decide (i3 > 0) = true := by simpa using h2
              have hbad : Hid (¬ fin 0 i3) := fun h => absurd h.2 (by omega)
              go_wp2
              go_ret
              refine ⟨?_, hM.grown⟩
              have hq : r = 1 := hr'.trans (if_neg (fun h => hbad h.2.2.2.2))
              rw [hq]
              rfl
            · have g2 : decide (i3 > 0) = false := by simpa using h2
              have hgood : Hid (fin 0 i3) := ⟨by omega, by omega⟩
              go_wp2
              go_roundw
              case rel => exact .inr (.inr (.inr (.inr (⟨rfl, hM, hs.1, hs.2.1, hs.2.2.1, hgood, trivial⟩))))
              case measure => simp [intOf]
        · go_wp2
          go_ret
          refine ⟨?_, hM.grown⟩
          have hq : r = 0 := hr'.trans (if_pos ⟨.inl rfl, hs.1, hs.2.1, hs.2.2.1, hs.2.2.2.1⟩)
          rw [hq]
          rfl
    · go_enter Try.func36, Try.ntmps36
      go_wp2
      go_loopw [15] (fun i wr => (i = .int .i64 0 ∧ Fil w wr 51 1 i0 i1 i2 i3 ∧ True) ∨ (i = .int .i64 1 ∧ Fil w wr 51 1 i0 i1 i2 i3 ∧ Hid (fin 1 i0) ∧ True) ∨ (i = .int .i64 2 ∧ Fil w wr 51 1 i0 i1 i2 i3 ∧ Hid (fin 1 i0) ∧ Hid (fin 1 i1) ∧ True) ∨ (i = .int .i64 3 ∧ Fil w wr 51 1 i0 i1 i2 i3 ∧ Hid (fin 1 i0) ∧ Hid (fin 1 i1) ∧ Hid (fin 1 i2) ∧ True) ∨ (i = .int .i64 4 ∧ Fil w wr 51 1 i0 i1 i2 i3 ∧ Hid (fin 1 i0) ∧ Hid (fin 1 i1) ∧ Hid (fin 1 i2) ∧ Hid (fin 1 i3) ∧ True)) (fun i _ => 4 - (intOf i).toNat)
      case atStart => exact .inl ⟨rfl, Fil.start w _ _ _ _ _ _, trivial⟩
      case round =>
        rcases hrel with ⟨rfl, hM, hs⟩ | ⟨rfl, hM, hs⟩ | ⟨rfl, hM, hs⟩ | ⟨rfl, hM, hs⟩ | ⟨rfl, hM, hs⟩
        · have d0 := hM.cells.1
          by_cases h1 : i0 < 0
          · have g1 : decide (i0 < 0) = true := by simpa using h1
            have hbad : Hid (¬ fin 1 i0) := fun h => absurd h.1 (by omega)
            go_wp2
            go_ret
            refine ⟨?_, hM.grown⟩
            have hq : r = 1 := hr'.trans (if_neg (fun h => hbad h.2.1))
            rw [hq]
            rfl
          · have g1 : decide (i0 < 0) = false := by simpa using h1
            by_cases h2 : i0 > 16
            · have g2 : decide (i0 > 16) = true := by simpa using h2
              have hbad : Hid (¬ fin 1 i0) := fun h => absurd h.2 (by omega)
              go_wp2
              go_ret
              refine ⟨?_, hM.grown⟩
              have hq : r = 1 := hr'.trans (if_neg (fun h => hbad h.2.1))
              rw [hq]
              rfl
            · have g2 : decide (i0 > 16) = false := by simpa using h2
              have hgood : Hid (fin 1 i0) := ⟨by omega, by omega⟩
              go_wp2
              go_roundw
              case rel => exact .inr (.inl (⟨rfl, hM, hgood, trivial⟩))
              case measure => simp [intOf]
        · have d0 := hM.cells.1
          by_cases h1 : i1 < 0
          · have g1 : decide (i1 < 0) = true := by simpa using h1
            have hbad : Hid (¬ fin 1 i1) := fun h => absurd h.1 (by omega)
            go_wp2
            go_ret
            refine ⟨?_, hM.grown⟩
            have hq : r = 1 := hr'.trans (if_neg (fun h => hbad h.2.2.1))
            rw [hq]
            rfl
          · have g1 : decide (i1 < 0) = false := by simpa using h1
            by_cases h2 : i1 > 16
            · have g2 : decide (i1 > 16) = true := by simpa using h2
              have hbad : Hid (¬ fin 1 i1) := fun h => absurd h.2 (by omega)
              go_wp2
              go_ret
              refine ⟨?_, hM.grown⟩
              have hq : r = 1 := hr'.trans (if_neg (fun h => hbad h.2.2.1))
              rw [hq]
              rfl
            · have g2 : decide (i1 > 16) = false := by simpa using h2
              have hgood : Hid (fin 1 i1) := ⟨by omega, by omega⟩
              go_wp2
              go_roundw
              case rel => exact .inr (.inr (.inl (⟨rfl, hM, hs.1, hgood, trivial⟩)))
              case measure => simp [intOf]
        · have d0 := hM.cells.1
          by_cases h1 : i2 < 0
          · have g1 : decide (i2 < 0) = true := by simpa using h1
            have hbad : Hid (¬ fin 1 i2) := fun h => absurd h.1 (by omega)
            go_wp2
            go_ret
            refine ⟨?_, hM.grown⟩
            have hq : r = 1 := hr'.trans (if_neg (fun h => hbad h.2.2.2.1))
            rw [hq]
            rfl
          · have g1 : decide (i2 < 0) = false := by simpa using h1
            by_cases h2 : i2 > 16
            · have g2 : decide (i2 > 16) = true := by simpa using h2
              have hbad : Hid (¬ fin 1 i2) := fun h => absurd h.2 (by omega)
              go_wp2
              go_ret
              refine ⟨?_, hM.grown⟩
              have hq : r = 1 := hr'.trans (if_neg (fun h => hbad h.2.2.2.1))
              rw [hq]
              rfl
            · have g2 : decide (i2 > 16) = false := by simpa using h2
              have hgood : Hid (fin 1 i2) := ⟨by omega, by omega⟩
              go_wp2
              go_roundw
              case rel => exact .inr (.inr (.inr (.inl (⟨rfl, hM, hs.1, hs.2.1, hgood, trivial⟩))))
              case measure => simp [intOf]
        · have d0 := hM.cells.1
          by_cases h1 : i3 < 0
          · have g1 : decide (i3 < 0) = true := by simpa using h1
            have hbad : Hid (¬ fin 1 i3) := fun h => absurd h.1 (by omega)
            go_wp2
            go_ret
            refine ⟨?_, hM.grown⟩
            have hq : r = 1 := hr'.trans (if_neg (fun h => hbad h.2.2.2.2))
            rw [hq]
            rfl
          · have g1 : decide (i3 < 0) = false := by simpa using h1
            by_cases h2 : i3 > 16
            · have g2 : decide (i3 > 16) = true := by simpa using h2
              have hbad : Hid (¬ fin 1 i3) := fun h => absurd h.2 (by omega)
              go_wp2
              go_ret
              refine ⟨?_, hM.grown⟩
              have hq : r = 1 := hr'.trans (if_neg (fun h => hbad h.2.2.2.2))
              rw [hq]
              rfl
            · have g2 : decide (i3 > 16) = false := by simpa using h2
              have hgood : Hid (fin 1 i3) := ⟨by omega, by omega⟩
              go_wp2
              go_roundw
              case rel => exact .inr (.inr (.inr (.inr (⟨rfl, hM, hs.1, hs.2.1, hs.2.2.1, hgood, trivial⟩))))
              case measure => simp [intOf]
        · go_wp2
          go_ret
          refine ⟨?_, hM.grown⟩
          have hq : r = 0 := hr'.trans (if_pos ⟨.inr rfl, hs.1, hs.2.1, hs.2.2.1, hs.2.2.2.1⟩)
          rw [hq]
          rfl
end Go.Proofs.YtojlgjdebokelabH
