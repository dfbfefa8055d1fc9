import Derived.Test.YtojlgjdebokelabHLat
import Derived.Outline
import Derived.Deep.RegionHeld3
import Derived.Deep.DrawnRows
set_option linter.unusedVariables false
set_option linter.unusedSimpArgs false
namespace Go.Proofs.YtojlgjdebokelabH
open Go.RowKit Go.Proofs.YtojlgjdebokelabW.PrintWords Go.Proofs.YtojlgjdebokelabW.PrintMore
attribute [local go_sem ↓] Go.wp_at_zero Go.wp_at_succ
theorem MoveRel.front0 {L : Nat} {w wr : World} {f0 f1 f2 f3 f4 k0 k1 k2 k3 s0 s1 s2 s3 : Int} (h : MoveRel L w wr f0 f1 f2 f3 f4 k0 k1 k2 k3 s0 s1 s2 s3) (hL : L < w.heap.size) (n : Nat) (x : Int) : MoveRel L w ((wr.drewN n).setCell ⟨w.heap.size, 0, none⟩ (.int .i32 x)) x f1 f2 f3 f4 k0 k1 k2 k3 s0 s1 s2 s3 :=
  ⟨⟨(Below.heap_setCell _ _ _ _ (by show L ≠ w.heap.size; omega)).trans h.lat.box⟩, by have hb := h.front; simp [World.setCell, Array.getElem?_modify, hb], grown_setCell (grown_drewN h.grown n) (.inr (Nat.le_refl _)) _⟩
theorem MoveRel.front1 {L : Nat} {w wr : World} {f0 f1 f2 f3 f4 k0 k1 k2 k3 s0 s1 s2 s3 : Int} (h : MoveRel L w wr f0 f1 f2 f3 f4 k0 k1 k2 k3 s0 s1 s2 s3) (hL : L < w.heap.size) (n : Nat) (x : Int) : MoveRel L w ((wr.drewN n).setCell ⟨w.heap.size, 1, none⟩ (.int .i32 x)) f0 x f2 f3 f4 k0 k1 k2 k3 s0 s1 s2 s3 :=
  ⟨⟨(Below.heap_setCell _ _ _ _ (by show L ≠ w.heap.size; omega)).trans h.lat.box⟩, by have hb := h.front; simp [World.setCell, Array.getElem?_modify, hb], grown_setCell (grown_drewN h.grown n) (.inr (Nat.le_refl _)) _⟩
theorem MoveRel.front2 {L : Nat} {w wr : World} {f0 f1 f2 f3 f4 k0 k1 k2 k3 s0 s1 s2 s3 : Int} (h : MoveRel L w wr f0 f1 f2 f3 f4 k0 k1 k2 k3 s0 s1 s2 s3) (hL : L < w.heap.size) (n : Nat) (x : Int) : MoveRel L w ((wr.drewN n).setCell ⟨w.heap.size, 2, none⟩ (.int .i32 x)) f0 f1 x f3 f4 k0 k1 k2 k3 s0 s1 s2 s3 :=
  ⟨⟨(Below.heap_setCell _ _ _ _ (by show L ≠ w.heap.size; omega)).trans h.lat.box⟩, by have hb := h.front; simp [World.setCell, Array.getElem?_modify, hb], grown_setCell (grown_drewN h.grown n) (.inr (Nat.le_refl _)) _⟩
theorem MoveRel.front3 {L : Nat} {w wr : World} {f0 f1 f2 f3 f4 k0 k1 k2 k3 s0 s1 s2 s3 : Int} (h : MoveRel L w wr f0 f1 f2 f3 f4 k0 k1 k2 k3 s0 s1 s2 s3) (hL : L < w.heap.size) (n : Nat) (x : Int) : MoveRel L w ((wr.drewN n).setCell ⟨w.heap.size, 3, none⟩ (.int .i32 x)) f0 f1 f2 x f4 k0 k1 k2 k3 s0 s1 s2 s3 :=
  ⟨⟨(Below.heap_setCell _ _ _ _ (by show L ≠ w.heap.size; omega)).trans h.lat.box⟩, by have hb := h.front; simp [World.setCell, Array.getElem?_modify, hb], grown_setCell (grown_drewN h.grown n) (.inr (Nat.le_refl _)) _⟩
theorem MoveRel.front4 {L : Nat} {w wr : World} {f0 f1 f2 f3 f4 k0 k1 k2 k3 s0 s1 s2 s3 : Int} (h : MoveRel L w wr f0 f1 f2 f3 f4 k0 k1 k2 k3 s0 s1 s2 s3) (hL : L < w.heap.size) (n : Nat) (x : Int) : MoveRel L w ((wr.drewN n).setCell ⟨w.heap.size, 4, none⟩ (.int .i32 x)) f0 f1 f2 f3 x k0 k1 k2 k3 s0 s1 s2 s3 :=
  ⟨⟨(Below.heap_setCell _ _ _ _ (by show L ≠ w.heap.size; omega)).trans h.lat.box⟩, by have hb := h.front; simp [World.setCell, Array.getElem?_modify, hb], grown_setCell (grown_drewN h.grown n) (.inr (Nat.le_refl _)) _⟩

set_option maxRecDepth 100000 in
set_option maxHeartbeats 4000000 in
theorem run_any (L : Nat) (w : World) (k0 k1 k2 k3 s0 s1 s2 s3 x : Int) (h : Lat L w k0 k1 k2 k3 s0 s1 s2 s3) (hk : I16 k0 ∧ I16 k1 ∧ I16 k2 ∧ I16 k3) (hs : I32 s0 ∧ I32 s1 ∧ I32 s2 ∧ I32 s3) (hx : I32 x)
    (a1 a2 a3 a4 : Int) (e1 : a1 = addv x (mulv s0 k0)) (e2 : a2 = addv a1 (mulv s1 k1)) (e3 : a3 = addv a2 (mulv s2 k2)) (e4 : a4 = addv a3 (mulv s3 k3)) :
    Calls Try.prog 77 #[.pointer (some ⟨L, 0, none⟩), .int .i32 x] w fun e w' => e = .returned (.int .i32 a4) ∧ w.grownBy w' (some L) ∧ Lat L w' k0 k1 k2 k3 x (addv s0 (mulv x k0)) (addv s1 (mulv a1 k1)) (addv s2 (mulv a2 k2)) := by
  obtain ⟨hk0, hk1, hk2, hk3⟩ := hk
  obtain ⟨hs0, hs1, hs2, hs3⟩ := hs
  have ha1 : I32 a1 := e1 ▸ addv_bd _ _
  have ha2 : I32 a2 := e2 ▸ addv_bd _ _
  have ha3 : I32 a3 := e3 ▸ addv_bd _ _
  have ha4 : I32 a4 := e4 ▸ addv_bd _ _
  have hid1 := Lib.hid e1
  have hid2 := Lib.hid e2
  have hid3 := Lib.hid e3
  have hid4 := Lib.hid e4
  clear e1 e2 e3 e4
  have hL := h.lt
  have hLn : L ≠ w.heap.size := Nat.ne_of_lt hL
  have hLn' : w.heap.size ≠ L := Nat.ne_of_gt hL
  go_enter Try.func77, Try.ntmps77
  go_wp2
  go_loopw [9] (fun i wr => (i = .int .i64 0 ∧ MoveRel L w wr x 0 0 0 0 k0 k1 k2 k3 s0 s1 s2 s3) ∨ (i = .int .i64 1 ∧ MoveRel L w wr x a1 0 0 0 k0 k1 k2 k3 s0 s1 s2 s3) ∨ (i = .int .i64 2 ∧ MoveRel L w wr x a1 a2 0 0 k0 k1 k2 k3 s0 s1 s2 s3) ∨ (i = .int .i64 3 ∧ MoveRel L w wr x a1 a2 a3 0 k0 k1 k2 k3 s0 s1 s2 s3) ∨ (i = .int .i64 4 ∧ MoveRel L w wr x a1 a2 a3 a4 k0 k1 k2 k3 s0 s1 s2 s3)) (fun i _ => 4 - (intOf i).toNat)
  case atStart => exact .inl ⟨rfl, MoveRel.start h _ _ _ _ _⟩
  case round =>
    rcases hrel with ⟨rfl, hM⟩ | ⟨rfl, hM⟩ | ⟨rfl, hM⟩ | ⟨rfl, hM⟩ | ⟨rfl, hM⟩
    · have g0 : wr.frozen? ⟨w.heap.size, 1, none⟩ = false := by have := hM.front; simp [World.frozen?, this]
      have c0 := hM.lat.cell.1
      have c1 := hM.lat.cell.2.2.2.2.1
      have d0 := hM.cells.1
      have d1 := hM.cells.2.1
      have hw1 : IntKind.i64.wrap (0 + 1) = 1 := by decide
      have hw2 : IntKind.i64.wrap 1 = 1 := by decide
      go_wp2_with fail
      go_region_held3 (fun w' => w'.cell? ⟨w.heap.size, 0, none⟩ = some (.int .i32 x) ∧ w'.cell? ⟨L, 0, none⟩ = some (.int .i16 k0) ∧ w'.cell? ⟨L, 4, none⟩ = some (.int .i32 s0)) (first | exact hHeld | exact ⟨d0, c0, c1⟩ | exact ⟨(World.cell?_setCell_other _ _ _ _ (by simp)).trans (by assumption), (World.cell?_setCell_other _ _ _ _ (by simp [hLn'])).trans (by assumption), (World.cell?_setCell_other _ _ _ _ (by simp [hLn'])).trans (by assumption)⟩) ((first | (go_at_call 101; refine (mul_any _ _ _ (by assumption) (by assumption)).mono ?_; rintro e w1 ⟨rfl, nm, rfl⟩) | (go_at_call 100; refine (add_any _ _ _ (by assumption) (mulv_bd _ _)).mono ?_; rintro e w1 ⟨rfl, rfl⟩)))
      go_wp2
      go_roundw
      case rel =>
        have hM2 := hM.front1 hL (1 + nm) (addv x (mulv s0 k0))
        have hq : a1 = addv x (mulv s0 k0) := hid1
        rw [← hq] at hM2
        refine .inr (.inl (⟨rfl, ?_⟩))
        rw [← hq]
        exact hM2
      case measure => simp [intOf]
    · have g0 : wr.frozen? ⟨w.heap.size, 2, none⟩ = false := by have := hM.front; simp [World.frozen?, this]
      have c0 := hM.lat.cell.2.1
      have c1 := hM.lat.cell.2.2.2.2.2.1
      have d0 := hM.cells.2.1
      have d1 := hM.cells.2.2.1
      have hw1 : IntKind.i64.wrap (1 + 1) = 2 := by decide
      have hw2 : IntKind.i64.wrap 2 = 2 := by decide
      go_wp2_with fail
      go_region_held3 (fun w' => w'.cell? ⟨w.heap.size, 1, none⟩ = some (.int .i32 a1) ∧ w'.cell? ⟨L, 1, none⟩ = some (.int .i16 k1) ∧ w'.cell? ⟨L, 5, none⟩ = some (.int .i32 s1)) (first | exact hHeld | exact ⟨d0, c0, c1⟩ | exact ⟨(World.cell?_setCell_other _ _ _ _ (by simp)).trans (by assumption), (World.cell?_setCell_other _ _ _ _ (by simp [hLn'])).trans (by assumption), (World.cell?_setCell_other _ _ _ _ (by simp [hLn'])).trans (by assumption)⟩) ((first | (go_at_call 101; refine (mul_any _ _ _ (by assumption) (by assumption)).mono ?_; rintro e w1 ⟨rfl, nm, rfl⟩) | (go_at_call 100; refine (add_any _ _ _ (by assumption) (mulv_bd _ _)).mono ?_; rintro e w1 ⟨rfl, rfl⟩)))
      go_wp2
      go_roundw
      case rel =>
        have hM2 := hM.front2 hL (1 + nm) (addv a1 (mulv s1 k1))
        have hq : a2 = addv a1 (mulv s1 k1) := hid2
        rw [← hq] at hM2
        refine .inr (.inr (.inl (⟨rfl, ?_⟩)))
        rw [← hq]
        exact hM2
      case measure => simp [intOf]
    · have g0 : wr.frozen? ⟨w.heap.size, 3, none⟩ = false := by have := hM.front; simp [World.frozen?, this]
      have c0 := hM.lat.cell.2.2.1
      have c1 := hM.lat.cell.2.2.2.2.2.2.1
      have d0 := hM.cells.2.2.1
      have d1 := hM.cells.2.2.2.1
      have hw1 : IntKind.i64.wrap (2 + 1) = 3 := by decide
      have hw2 : IntKind.i64.wrap 3 = 3 := by decide
      go_wp2_with fail
      go_region_held3 (fun w' => w'.cell? ⟨w.heap.size, 2, none⟩ = some (.int .i32 a2) ∧ w'.cell? ⟨L, 2, none⟩ = some (.int .i16 k2) ∧ w'.cell? ⟨L, 6, none⟩ = some (.int .i32 s2)) (first | exact hHeld | exact ⟨d0, c0, c1⟩ | exact ⟨(World.cell?_setCell_other _ _ _ _ (by simp)).trans (by assumption), (World.cell?_setCell_other _ _ _ _ (by simp [hLn'])).trans (by assumption), (World.cell?_setCell_other _ _ _ _ (by simp [hLn'])).trans (by assumption)⟩) ((first | (go_at_call 101; refine (mul_any _ _ _ (by assumption) (by assumption)).mono ?_; rintro e w1 ⟨rfl, nm, rfl⟩) | (go_at_call 100; refine (add_any _ _ _ (by assumption) (mulv_bd _ _)).mono ?_; rintro e w1 ⟨rfl, rfl⟩)))
      go_wp2
      go_roundw
      case rel =>
        have hM2 := hM.front3 hL (1 + nm) (addv a2 (mulv s2 k2))
        have hq : a3 = addv a2 (mulv s2 k2) := hid3
        rw [← hq] at hM2
        refine .inr (.inr (.inr (.inl (⟨rfl, ?_⟩))))
        rw [← hq]
        exact hM2
      case measure => simp [intOf]
    · have g0 : wr.frozen? ⟨w.heap.size, 4, none⟩ = false := by have := hM.front; simp [World.frozen?, this]
      have c0 := hM.lat.cell.2.2.2.1
      have c1 := hM.lat.cell.2.2.2.2.2.2.2.1
      have d0 := hM.cells.2.2.2.1
      have d1 := hM.cells.2.2.2.2
      have hw1 : IntKind.i64.wrap (3 + 1) = 4 := by decide
      have hw2 : IntKind.i64.wrap 4 = 4 := by decide
      go_wp2_with fail
      go_region_held3 (fun w' => w'.cell? ⟨w.heap.size, 3, none⟩ = some (.int .i32 a3) ∧ w'.cell? ⟨L, 3, none⟩ = some (.int .i16 k3) ∧ w'.cell? ⟨L, 7, none⟩ = some (.int .i32 s3)) (first | exact hHeld | exact ⟨d0, c0, c1⟩ | exact ⟨(World.cell?_setCell_other _ _ _ _ (by simp)).trans (by assumption), (World.cell?_setCell_other _ _ _ _ (by simp [hLn'])).trans (by assumption), (World.cell?_setCell_other _ _ _ _ (by simp [hLn'])).trans (by assumption)⟩) ((first | (go_at_call 101; refine (mul_any _ _ _ (by assumption) (by assumption)).mono ?_; rintro e w1 ⟨rfl, nm, rfl⟩) | (go_at_call 100; refine (add_any _ _ _ (by assumption) (mulv_bd _ _)).mono ?_; rintro e w1 ⟨rfl, rfl⟩)))
      go_wp2
      go_roundw
      case rel =>
        have hM2 := hM.front4 hL (1 + nm) (addv a3 (mulv s3 k3))
        have hq : a4 = addv a3 (mulv s3 k3) := hid4
        rw [← hq] at hM2
        refine .inr (.inr (.inr (.inr (⟨rfl, ?_⟩))))
        rw [← hq]
        exact hM2
      case measure => simp [intOf]
    · obtain ⟨d0, d1, d2, d3, d4⟩ := hM.cells
      go_wp2_with (go_at_call 102; refine (move_any L _ k0 k1 k2 k3 s0 s1 s2 s3 x a1 a2 a3 a4 hM.lat ⟨hk0, hk1, hk2, hk3⟩ ⟨hs0, hs1, hs2, hs3⟩ ⟨hx, ha1, ha2, ha3⟩).mono ?_; rintro e w1 ⟨rfl, hg, hl⟩; have d : w1.cell? ⟨w.heap.size, 4, none⟩ = some (.int .i32 a4) := by simpa using cell_of_row w1 w.heap.size 4 _ 153 (0, 0) ((hg.block w.heap.size (Array.getElem?_eq_some_iff.1 hM.front).1 (by simp; omega)).trans hM.front))
      have hgg : w.grownBy w1 (some L) := hM.grown.trans hg
      go_wp2
      go_ret
      exact ⟨rfl, hgg, hl⟩
end Go.Proofs.YtojlgjdebokelabH
