/- The lattice's numbers moved behind a line (tns.lattice.move), walked. -/
import Derived.Test.YtojlgjdebokelabHRound
import Derived.Test.YtojlgjdebokelabHList
import Derived.Test.YtojlgjdebokelabWMore
import Derived.OneCell

import Derived.Deep.RegionHeld3
import Derived.Deep.RegionWith
set_option linter.unusedVariables false
namespace Go.Proofs.YtojlgjdebokelabH
open Go.RowKit Go.Proofs.YtojlgjdebokelabW.PrintWords Go.Proofs.YtojlgjdebokelabW.PrintMore

def s32 (n : Int) : Int := clamp n (-2147483648) 2147483647
theorem s32_bd (n : Int) : -2147483648 ≤ s32 n ∧ s32 n ≤ 2147483647 := clamp_in _ _ _ (by decide)
def I32 (a : Int) : Prop := -2147483648 ≤ a ∧ a ≤ 2147483647
def I16 (a : Int) : Prop := -32768 ≤ a ∧ a ≤ 32767
def addv (a b : Int) : Int := s32 (a + b)
def mulv (a k : Int) : Int := s32 (rnd (a * k) 15)
theorem addv_bd (a b : Int) : I32 (addv a b) := s32_bd _
theorem mulv_bd (a b : Int) : I32 (mulv a b) := s32_bd _
theorem mul_bd {a k : Int} (ha : I32 a) (hk : I16 k) : -70368744177664 ≤ a * k ∧ a * k ≤ 70368744177664 := by
  unfold I32 at ha; unfold I16 at hk
  have h1 : (a + 2147483648) * (k + 32768) ≥ 0 := Int.mul_nonneg (by omega) (by omega)
  have h2 : (2147483647 - a) * (32767 - k) ≥ 0 := Int.mul_nonneg (by omega) (by omega)
  have h3 : (a + 2147483648) * (32767 - k) ≥ 0 := Int.mul_nonneg (by omega) (by omega)
  have h4 : (2147483647 - a) * (k + 32768) ≥ 0 := Int.mul_nonneg (by omega) (by omega)
  simp only [Int.add_mul, Int.mul_add, Int.sub_mul, Int.mul_sub] at h1 h2 h3 h4
  omega
theorem add_any (a b : Int) (w : World) (ha : I32 a) (hb : I32 b) :
    Calls Try.prog 100 #[.int .i32 a, .int .i32 b] w fun e w' => e = .returned (.int .i32 (addv a b)) ∧ w = w' := by
  unfold addv s32
  unfold I32 at ha hb
  go_enter Try.func100, Try.ntmps100
  go_wp2_with (go_at_call 44; refine (sat32_any _ _).mono ?_; rintro e w' ⟨rfl, rfl⟩)
  go_ret
  exact ⟨rfl, rfl⟩
theorem sub_any (a b : Int) (w : World) (ha : I32 a) (hb : I32 b) :
    Calls Try.prog 103 #[.int .i32 a, .int .i32 b] w fun e w' => e = .returned (.int .i32 (addv a (-b))) ∧ w = w' := by
  unfold addv s32
  unfold I32 at ha hb
  rw [show a + -b = a - b by omega]
  go_enter Try.func103, Try.ntmps103
  go_wp2_with (go_at_call 44; refine (sat32_any _ _).mono ?_; rintro e w' ⟨rfl, rfl⟩)
  go_ret
  exact ⟨rfl, rfl⟩
theorem mul_any (a k : Int) (w : World) (ha : I32 a) (hk : I16 k) :
    Calls Try.prog 101 #[.int .i32 a, .int .i16 k] w fun e w' => e = .returned (.int .i32 (mulv a k)) ∧ ∃ n, w' = w.drewN n := by
  have hb := mul_bd ha hk
  unfold mulv s32
  unfold I32 at ha
  unfold I16 at hk
  go_enter Try.func101, Try.ntmps101
  go_wp2_with (first | (go_at_call 46; refine (fixround_any _ _ _ (by omega)).mono ?_; rintro e w' ⟨rfl, nk, rfl⟩) | (go_at_call 44; refine (sat32_any _ _).mono ?_; rintro e w' ⟨rfl, rfl⟩))
  go_ret
  exact ⟨rfl, _, rfl⟩
/-- A lattice in block L. -/
structure Lat (L : Nat) (w : World) (k0 k1 k2 k3 s0 s1 s2 s3 : Int) : Prop where
  box : w.heap[L]? = some (.cells #[.int .i16 k0, .int .i16 k1, .int .i16 k2, .int .i16 k3, .int .i32 s0, .int .i32 s1, .int .i32 s2, .int .i32 s3] 127 (0, 0))
theorem Lat.cell {L : Nat} {w : World} {k0 k1 k2 k3 s0 s1 s2 s3 : Int} (h : Lat L w k0 k1 k2 k3 s0 s1 s2 s3) :
    w.cell? ⟨L, 0, none⟩ = some (.int .i16 k0) ∧ w.cell? ⟨L, 1, none⟩ = some (.int .i16 k1) ∧ w.cell? ⟨L, 2, none⟩ = some (.int .i16 k2) ∧ w.cell? ⟨L, 3, none⟩ = some (.int .i16 k3) ∧
    w.cell? ⟨L, 4, none⟩ = some (.int .i32 s0) ∧ w.cell? ⟨L, 5, none⟩ = some (.int .i32 s1) ∧ w.cell? ⟨L, 6, none⟩ = some (.int .i32 s2) ∧ w.cell? ⟨L, 7, none⟩ = some (.int .i32 s3) ∧ ∀ o, w.frozen? ⟨L, o, none⟩ = false := by
  have hb := h.box
  refine ⟨?_, ?_, ?_, ?_, ?_, ?_, ?_, ?_, fun o => by simp [World.frozen?, hb]⟩
  all_goals first
    | simpa using cell_of_row w L 0 _ 127 (0, 0) hb
    | simpa using cell_of_row w L 1 _ 127 (0, 0) hb
    | simpa using cell_of_row w L 2 _ 127 (0, 0) hb
    | simpa using cell_of_row w L 3 _ 127 (0, 0) hb
    | simpa using cell_of_row w L 4 _ 127 (0, 0) hb
    | simpa using cell_of_row w L 5 _ 127 (0, 0) hb
    | simpa using cell_of_row w L 6 _ 127 (0, 0) hb
    | simpa using cell_of_row w L 7 _ 127 (0, 0) hb
theorem Lat.drew {L : Nat} {w : World} {k0 k1 k2 k3 s0 s1 s2 s3 : Int} (h : Lat L w k0 k1 k2 k3 s0 s1 s2 s3) (n : Nat) : Lat L (w.drewN n) k0 k1 k2 k3 s0 s1 s2 s3 := ⟨h.box⟩
theorem addq_any (a b : Int) (w : World) (ha : I32 a) (hb : I32 b) :
    Calls Try.prog 100 #[.int .i32 a, .int .i32 b] w fun e w' => e = .returned (.int .i32 (addv a b)) ∧ ∃ n, w' = w.drewN n :=
  (add_any a b w ha hb).mono fun _ _ h => ⟨h.1, 0, h.2.symm⟩
structure MoveRel (L : Nat) (w wr : World) (f0 f1 f2 f3 f4 k0 k1 k2 k3 s0 s1 s2 s3 : Int) : Prop where
  lat : Lat L wr k0 k1 k2 k3 s0 s1 s2 s3
  front : wr.heap[w.heap.size]? = some (.cells #[.int .i32 f0, .int .i32 f1, .int .i32 f2, .int .i32 f3, .int .i32 f4] 153 (0, 0))
  grown : w.grownBy wr (some L)
theorem Lat.lt {L : Nat} {w : World} {k0 k1 k2 k3 s0 s1 s2 s3 : Int} (h : Lat L w k0 k1 k2 k3 s0 s1 s2 s3) : L < w.heap.size := (Array.getElem?_eq_some_iff.1 h.box).1
theorem MoveRel.start {L : Nat} {w : World} {k0 k1 k2 k3 s0 s1 s2 s3 : Int} (h : Lat L w k0 k1 k2 k3 s0 s1 s2 s3) (f0 f1 f2 f3 f4 : Int) :
    MoveRel L w (w.alloc (.cells #[.int .i32 f0, .int .i32 f1, .int .i32 f2, .int .i32 f3, .int .i32 f4] 153)) f0 f1 f2 f3 f4 k0 k1 k2 k3 s0 s1 s2 s3 :=
  ⟨⟨(Below.heap_alloc _ _ _ h.lt).trans h.box⟩, heap_alloc_new w _, grown_of_below ((Below.refl _ _).alloc (Nat.le_refl _) _) _⟩
theorem MoveRel.cells {L : Nat} {w wr : World} {f0 f1 f2 f3 f4 k0 k1 k2 k3 s0 s1 s2 s3 : Int} (h : MoveRel L w wr f0 f1 f2 f3 f4 k0 k1 k2 k3 s0 s1 s2 s3) :
    wr.cell? ⟨w.heap.size, 0, none⟩ = some (.int .i32 f0) ∧ wr.cell? ⟨w.heap.size, 1, none⟩ = some (.int .i32 f1) ∧ wr.cell? ⟨w.heap.size, 2, none⟩ = some (.int .i32 f2) ∧ wr.cell? ⟨w.heap.size, 3, none⟩ = some (.int .i32 f3) ∧ wr.cell? ⟨w.heap.size, 4, none⟩ = some (.int .i32 f4) := by
  have hb := h.front
  refine ⟨?_, ?_, ?_, ?_, ?_⟩
  all_goals first
    | simpa using cell_of_row wr w.heap.size 0 _ 153 (0, 0) hb
    | simpa using cell_of_row wr w.heap.size 1 _ 153 (0, 0) hb
    | simpa using cell_of_row wr w.heap.size 2 _ 153 (0, 0) hb
    | simpa using cell_of_row wr w.heap.size 3 _ 153 (0, 0) hb
    | simpa using cell_of_row wr w.heap.size 4 _ 153 (0, 0) hb
theorem grown_drewN {a w : World} {row : Option Nat} (h : a.grownBy w row) (n : Nat) : a.grownBy (w.drewN n) row := ⟨h.os, h.tape, h.output, h.size, h.block⟩
theorem grown_setCell {a w : World} {g : Nat} (h : a.grownBy w (some g)) {p : Addr} (hp : p.block = g ∨ a.heap.size ≤ p.block) (u : Value) : a.grownBy (w.setCell p u) (some g) :=
  ⟨h.os, h.tape, h.output, by simpa [World.setCell] using h.size, fun i hi hne => (Below.heap_setCell w p u i (by
    rintro rfl
    rcases hp with hp | hp
    · exact hne (by rw [hp])
    · omega)).trans (h.block i hi hne)⟩
theorem grown_alloc {a w : World} {row : Option Nat} (h : a.grownBy w row) (o : Obj) : a.grownBy (w.alloc o) row :=
  ⟨h.os, h.tape, h.output, Nat.le_trans h.size (by simp), fun i hi hne => (Below.heap_alloc w o i (Nat.lt_of_lt_of_le hi h.size)).trans (h.block i hi hne)⟩
theorem Lat.set0 {L : Nat} {w : World} {k0 k1 k2 k3 s0 s1 s2 s3 : Int} (h : Lat L w k0 k1 k2 k3 s0 s1 s2 s3) (x : Int) : Lat L (w.setCell ⟨L, 4, none⟩ (.int .i32 x)) k0 k1 k2 k3 x s1 s2 s3 :=
  ⟨by have hb := h.box; simp [World.setCell, Array.getElem?_modify, hb]⟩
theorem MoveRel.set0 {L : Nat} {w wr : World} {f0 f1 f2 f3 f4 k0 k1 k2 k3 s0 s1 s2 s3 : Int} (h : MoveRel L w wr f0 f1 f2 f3 f4 k0 k1 k2 k3 s0 s1 s2 s3) (hL : L < w.heap.size) (n : Nat) (x : Int) : MoveRel L w ((wr.setCell ⟨L, 4, none⟩ (.int .i32 x)).drewN n) f0 f1 f2 f3 f4 k0 k1 k2 k3 x s1 s2 s3 :=
  ⟨(h.lat.set0 x).drew n, (Below.heap_setCell _ _ _ _ (by show w.heap.size ≠ L; omega)).trans h.front, grown_drewN (grown_setCell h.grown (.inl rfl) _) n⟩
theorem Lat.set1 {L : Nat} {w : World} {k0 k1 k2 k3 s0 s1 s2 s3 : Int} (h : Lat L w k0 k1 k2 k3 s0 s1 s2 s3) (x : Int) : Lat L (w.setCell ⟨L, 5, none⟩ (.int .i32 x)) k0 k1 k2 k3 s0 x s2 s3 :=
  ⟨by have hb := h.box; simp [World.setCell, Array.getElem?_modify, hb]⟩
theorem MoveRel.set1 {L : Nat} {w wr : World} {f0 f1 f2 f3 f4 k0 k1 k2 k3 s0 s1 s2 s3 : Int} (h : MoveRel L w wr f0 f1 f2 f3 f4 k0 k1 k2 k3 s0 s1 s2 s3) (hL : L < w.heap.size) (n : Nat) (x : Int) : MoveRel L w ((wr.setCell ⟨L, 5, none⟩ (.int .i32 x)).drewN n) f0 f1 f2 f3 f4 k0 k1 k2 k3 s0 x s2 s3 :=
  ⟨(h.lat.set1 x).drew n, (Below.heap_setCell _ _ _ _ (by show w.heap.size ≠ L; omega)).trans h.front, grown_drewN (grown_setCell h.grown (.inl rfl) _) n⟩
theorem Lat.set2 {L : Nat} {w : World} {k0 k1 k2 k3 s0 s1 s2 s3 : Int} (h : Lat L w k0 k1 k2 k3 s0 s1 s2 s3) (x : Int) : Lat L (w.setCell ⟨L, 6, none⟩ (.int .i32 x)) k0 k1 k2 k3 s0 s1 x s3 :=
  ⟨by have hb := h.box; simp [World.setCell, Array.getElem?_modify, hb]⟩
theorem MoveRel.set2 {L : Nat} {w wr : World} {f0 f1 f2 f3 f4 k0 k1 k2 k3 s0 s1 s2 s3 : Int} (h : MoveRel L w wr f0 f1 f2 f3 f4 k0 k1 k2 k3 s0 s1 s2 s3) (hL : L < w.heap.size) (n : Nat) (x : Int) : MoveRel L w ((wr.setCell ⟨L, 6, none⟩ (.int .i32 x)).drewN n) f0 f1 f2 f3 f4 k0 k1 k2 k3 s0 s1 x s3 :=
  ⟨(h.lat.set2 x).drew n, (Below.heap_setCell _ _ _ _ (by show w.heap.size ≠ L; omega)).trans h.front, grown_drewN (grown_setCell h.grown (.inl rfl) _) n⟩
theorem Lat.set3 {L : Nat} {w : World} {k0 k1 k2 k3 s0 s1 s2 s3 : Int} (h : Lat L w k0 k1 k2 k3 s0 s1 s2 s3) (x : Int) : Lat L (w.setCell ⟨L, 7, none⟩ (.int .i32 x)) k0 k1 k2 k3 s0 s1 s2 x :=
  ⟨by have hb := h.box; simp [World.setCell, Array.getElem?_modify, hb]⟩
theorem MoveRel.set3 {L : Nat} {w wr : World} {f0 f1 f2 f3 f4 k0 k1 k2 k3 s0 s1 s2 s3 : Int} (h : MoveRel L w wr f0 f1 f2 f3 f4 k0 k1 k2 k3 s0 s1 s2 s3) (hL : L < w.heap.size) (n : Nat) (x : Int) : MoveRel L w ((wr.setCell ⟨L, 7, none⟩ (.int .i32 x)).drewN n) f0 f1 f2 f3 f4 k0 k1 k2 k3 s0 s1 s2 x :=
  ⟨(h.lat.set3 x).drew n, (Below.heap_setCell _ _ _ _ (by show w.heap.size ≠ L; omega)).trans h.front, grown_drewN (grown_setCell h.grown (.inl rfl) _) n⟩
set_option maxRecDepth 100000 in
set_option maxHeartbeats 2000000 in
theorem move_any (L : Nat) (w : World) (k0 k1 k2 k3 s0 s1 s2 s3 f0 f1 f2 f3 f4 : Int) (h : Lat L w k0 k1 k2 k3 s0 s1 s2 s3) (hk : I16 k0 ∧ I16 k1 ∧ I16 k2 ∧ I16 k3) (hs : I32 s0 ∧ I32 s1 ∧ I32 s2 ∧ I32 s3) (hf : I32 f0 ∧ I32 f1 ∧ I32 f2 ∧ I32 f3) :
    Calls Try.prog 102 #[.pointer (some ⟨L, 0, none⟩), .agg #[.int .i32 f0, .int .i32 f1, .int .i32 f2, .int .i32 f3, .int .i32 f4]] w fun e w' => e = .returned (.tuple #[]) ∧ w.grownBy w' (some L) ∧ Lat L w' k0 k1 k2 k3 f0 (addv s0 (mulv f0 k0)) (addv s1 (mulv f1 k1)) (addv s2 (mulv f2 k2)) := by
  obtain ⟨hk0, hk1, hk2, hk3⟩ := hk
  obtain ⟨hs0, hs1, hs2, hs3⟩ := hs
  obtain ⟨hf0, hf1, hf2, hf3⟩ := hf
  go_enter Try.func102, Try.ntmps102
  go_wp2
  go_loopw [4, 9] (fun b i wr => (i = .int .i64 0 ∧ b = .int .i32 f0 ∧ MoveRel L w wr f0 f1 f2 f3 f4 k0 k1 k2 k3 s0 s1 s2 s3) ∨ (i = .int .i64 1 ∧ b = .int .i32 (addv s0 (mulv f0 k0)) ∧ MoveRel L w wr f0 f1 f2 f3 f4 k0 k1 k2 k3 f0 s1 s2 s3) ∨ (i = .int .i64 2 ∧ b = .int .i32 (addv s1 (mulv f1 k1)) ∧ MoveRel L w wr f0 f1 f2 f3 f4 k0 k1 k2 k3 f0 (addv s0 (mulv f0 k0)) s2 s3) ∨ (i = .int .i64 3 ∧ b = .int .i32 (addv s2 (mulv f2 k2)) ∧ MoveRel L w wr f0 f1 f2 f3 f4 k0 k1 k2 k3 f0 (addv s0 (mulv f0 k0)) (addv s1 (mulv f1 k1)) s3) ∨ (i = .int .i64 4 ∧ MoveRel L w wr f0 f1 f2 f3 f4 k0 k1 k2 k3 f0 (addv s0 (mulv f0 k0)) (addv s1 (mulv f1 k1)) (addv s2 (mulv f2 k2)))) (fun _ i _ => 4 - (intOf i).toNat)
  case atStart => exact .inl ⟨rfl, rfl, MoveRel.start h _ _ _ _ _⟩
  case round =>
    rcases hrel with ⟨rfl, rfl, hM⟩ | ⟨rfl, rfl, hM⟩ | ⟨rfl, rfl, hM⟩ | ⟨rfl, rfl, hM⟩ | ⟨rfl, hM⟩
    · obtain ⟨c0, c1, c2, c3, c4, c5, c6, c7, cf⟩ := hM.lat.cell
      obtain ⟨d0, d1, d2, d3, d4⟩ := hM.cells
      go_wp2_with fail
      go_quiet ((first | (go_at_call 101; exact Calls.quiet_of (mul_any _ _ _ (by assumption) (by assumption))) | (go_at_call 100; exact Calls.quiet_of (addq_any _ _ _ (by assumption) (mulv_bd _ _)))))
      go_wp2
      go_roundw
      case rel => exact .inr (.inl ⟨rfl, rfl, hM.set0 h.lt nq _⟩)
      case measure => simp [intOf]
    · obtain ⟨c0, c1, c2, c3, c4, c5, c6, c7, cf⟩ := hM.lat.cell
      obtain ⟨d0, d1, d2, d3, d4⟩ := hM.cells
      go_wp2_with fail
      go_quiet ((first | (go_at_call 101; exact Calls.quiet_of (mul_any _ _ _ (by assumption) (by assumption))) | (go_at_call 100; exact Calls.quiet_of (addq_any _ _ _ (by assumption) (mulv_bd _ _)))))
      go_wp2
      go_roundw
      case rel => exact .inr (.inr (.inl ⟨rfl, rfl, hM.set1 h.lt nq _⟩))
      case measure => simp [intOf]
    · obtain ⟨c0, c1, c2, c3, c4, c5, c6, c7, cf⟩ := hM.lat.cell
      obtain ⟨d0, d1, d2, d3, d4⟩ := hM.cells
      go_wp2_with fail
      go_quiet ((first | (go_at_call 101; exact Calls.quiet_of (mul_any _ _ _ (by assumption) (by assumption))) | (go_at_call 100; exact Calls.quiet_of (addq_any _ _ _ (by assumption) (mulv_bd _ _)))))
      go_wp2
      go_roundw
      case rel => exact .inr (.inr (.inr (.inl ⟨rfl, rfl, hM.set2 h.lt nq _⟩)))
      case measure => simp [intOf]
    · obtain ⟨c0, c1, c2, c3, c4, c5, c6, c7, cf⟩ := hM.lat.cell
      obtain ⟨d0, d1, d2, d3, d4⟩ := hM.cells
      go_wp2_with fail
      go_quiet ((first | (go_at_call 101; exact Calls.quiet_of (mul_any _ _ _ (by assumption) (by assumption))) | (go_at_call 100; exact Calls.quiet_of (addq_any _ _ _ (by assumption) (mulv_bd _ _)))))
      go_wp2
      go_roundw
      case rel => exact .inr (.inr (.inr (.inr ⟨rfl, hM.set3 h.lt nq _⟩)))
      case measure => simp [intOf]
    · go_wp2
      go_end0
      exact ⟨rfl, hM.grown, hM.lat⟩
end Go.Proofs.YtojlgjdebokelabH
