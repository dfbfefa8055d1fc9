import Derived.Test.YtojlgjdebokelabHFil
import Derived.Deep.DrawnRows
set_option linter.unusedVariables false
set_option linter.unusedSimpArgs false
namespace Go.Proofs.YtojlgjdebokelabH
open Go.RowKit Go.Proofs.YtojlgjdebokelabW.PrintWords Go.Proofs.YtojlgjdebokelabW.PrintMore Go.Proofs.YtojlgjdebokelabW
attribute [local go_sem ↓] Go.wp_at_zero Go.wp_at_succ

def pv (i : Int) : Int := sinv (i - 8) 34
theorem sinv_bd (n d : Int) : -32767 ≤ sinv n d ∧ sinv n d ≤ 32767 := by
  unfold sinv
  have h := fun t => wavt_bd t
  split
  · generalize (if 4 * (n % d) / d % 2 = 1 then d - 4 * (n % d) % d else 4 * (n % d) % d) * 1073741824 / d = t
    have := h t; omega
  · generalize (if 4 * (n % d) / d % 2 = 1 then d - 4 * (n % d) % d else 4 * (n % d) % d) * 1073741824 / d = t
    have := h t; omega
theorem pv_bd (i : Int) : I16 (pv i) := by have := sinv_bd (i - 8) 34; unfold I16 pv; omega
theorem part17_any (i : Int) (w : World) (h0 : 0 ≤ i) (h1 : i ≤ 16) :
    Calls Try.prog 93 #[.int .i64 i] w fun e w' => e = .returned (.int .i16 (pv i)) ∧ ∃ n, w' = w.drewN n := by
  have hw : wrap64 (i - 8) = i - 8 := by unfold wrap64; omega
  refine (Go.Proofs.Ytojlgjdebokelab.PLib4.tns_part.calls i (pv i) w ?_).mono fun e w' h => ⟨h.1, h.2.out⟩
  show (Go.Proofs.Ytojlgjdebokelab.PLib4.wave_Sine.f (wrap64 (i - 8)) 34).bind _ = _
  rw [hw]
  rfl
structure OfRel (w wr : World) (k0 k1 k2 k3 : Int) : Prop where
  lat : Lat (w.heap.size + 1) wr k0 k1 k2 k3 0 0 0 0
  grown : w.grownBy wr none
theorem OfRel.set0 {w wr : World} {k0 k1 k2 k3 : Int} (h : OfRel w wr k0 k1 k2 k3) (n : Nat) (x : Int) : OfRel w ((wr.drewN n).setCell ⟨w.heap.size + 1, 0, none⟩ (.int .i16 x)) x k1 k2 k3 :=
  ⟨⟨by have hb := h.lat.box; simp [World.setCell, Array.getElem?_modify, hb]⟩, h.grown.os, h.grown.tape, h.grown.output, by simpa [World.setCell] using h.grown.size, fun i hi hne => (Below.heap_setCell _ _ _ i (by show i ≠ w.heap.size + 1; omega)).trans (h.grown.block i hi hne)⟩
theorem OfRel.set1 {w wr : World} {k0 k1 k2 k3 : Int} (h : OfRel w wr k0 k1 k2 k3) (n : Nat) (x : Int) : OfRel w ((wr.drewN n).setCell ⟨w.heap.size + 1, 1, none⟩ (.int .i16 x)) k0 x k2 k3 :=
  ⟨⟨by have hb := h.lat.box; simp [World.setCell, Array.getElem?_modify, hb]⟩, h.grown.os, h.grown.tape, h.grown.output, by simpa [World.setCell] using h.grown.size, fun i hi hne => (Below.heap_setCell _ _ _ i (by show i ≠ w.heap.size + 1; omega)).trans (h.grown.block i hi hne)⟩
theorem OfRel.set2 {w wr : World} {k0 k1 k2 k3 : Int} (h : OfRel w wr k0 k1 k2 k3) (n : Nat) (x : Int) : OfRel w ((wr.drewN n).setCell ⟨w.heap.size + 1, 2, none⟩ (.int .i16 x)) k0 k1 x k3 :=
  ⟨⟨by have hb := h.lat.box; simp [World.setCell, Array.getElem?_modify, hb]⟩, h.grown.os, h.grown.tape, h.grown.output, by simpa [World.setCell] using h.grown.size, fun i hi hne => (Below.heap_setCell _ _ _ i (by show i ≠ w.heap.size + 1; omega)).trans (h.grown.block i hi hne)⟩
theorem OfRel.set3 {w wr : World} {k0 k1 k2 k3 : Int} (h : OfRel w wr k0 k1 k2 k3) (n : Nat) (x : Int) : OfRel w ((wr.drewN n).setCell ⟨w.heap.size + 1, 3, none⟩ (.int .i16 x)) k0 k1 k2 x :=
  ⟨⟨by have hb := h.lat.box; simp [World.setCell, Array.getElem?_modify, hb]⟩, h.grown.os, h.grown.tape, h.grown.output, by simpa [World.setCell] using h.grown.size, fun i hi hne => (Below.heap_setCell _ _ _ i (by show i ≠ w.heap.size + 1; omega)).trans (h.grown.block i hi hne)⟩
theorem OfRel.start (w : World) (o : Obj) : OfRel w ((w.alloc o).alloc (.cells #[.int .i16 0, .int .i16 0, .int .i16 0, .int .i16 0, .int .i32 0, .int .i32 0, .int .i32 0, .int .i32 0] 127)) 0 0 0 0 :=
  ⟨⟨by have h := heap_alloc_new (w.alloc o) (.cells #[.int .i16 0, .int .i16 0, .int .i16 0, .int .i16 0, .int .i32 0, .int .i32 0, .int .i32 0, .int .i32 0] 127); simpa using h⟩,
   grown_of_below (((Below.refl _ _).alloc (Nat.le_refl _) _).alloc (by simp) _) _⟩
set_option maxRecDepth 100000 in
set_option maxHeartbeats 4000000 in
theorem tof_any (i0 i1 i2 i3 : Int) (w : World) (h0 : 0 ≤ i0 ∧ i0 ≤ 16) (h1 : 0 ≤ i1 ∧ i1 ≤ 16) (h2 : 0 ≤ i2 ∧ i2 ≤ 16) (h3 : 0 ≤ i3 ∧ i3 ≤ 16) (on : Int) :
    Calls Try.prog 74 #[fval on i0 i1 i2 i3] w fun e w' => e = .returned (.pointer (some ⟨w.heap.size + 1, 0, none⟩)) ∧ OfRel w w' (pv i0) (pv i1) (pv i2) (pv i3) := by
  obtain ⟨a0, b0⟩ := h0
  obtain ⟨a1, b1⟩ := h1
  obtain ⟨a2, b2⟩ := h2
  obtain ⟨a3, b3⟩ := h3
  have q0 : ∀ w, (Instr.index 49 (.agg #[.int .i64 i0, .int .i64 i1, .int .i64 i2, .int .i64 i3]) (.int .i64 0)).run Try.prog w = .ok (.int .i64 i0) w := fun _ => by kernel_rfl
  have q1 : ∀ w, (Instr.index 49 (.agg #[.int .i64 i0, .int .i64 i1, .int .i64 i2, .int .i64 i3]) (.int .i64 1)).run Try.prog w = .ok (.int .i64 i1) w := fun _ => by kernel_rfl
  have q2 : ∀ w, (Instr.index 49 (.agg #[.int .i64 i0, .int .i64 i1, .int .i64 i2, .int .i64 i3]) (.int .i64 2)).run Try.prog w = .ok (.int .i64 i2) w := fun _ => by kernel_rfl
  have q3 : ∀ w, (Instr.index 49 (.agg #[.int .i64 i0, .int .i64 i1, .int .i64 i2, .int .i64 i3]) (.int .i64 3)).run Try.prog w = .ok (.int .i64 i3) w := fun _ => by kernel_rfl
  go_enter Try.func74, Try.ntmps74
  go_wp2
  go_loopw [10] (fun i wr => (i = .int .i64 0 ∧ OfRel w wr 0 0 0 0) ∨ (i = .int .i64 1 ∧ OfRel w wr (pv i0) 0 0 0) ∨ (i = .int .i64 2 ∧ OfRel w wr (pv i0) (pv i1) 0 0) ∨ (i = .int .i64 3 ∧ OfRel w wr (pv i0) (pv i1) (pv i2) 0) ∨ (i = .int .i64 4 ∧ OfRel w wr (pv i0) (pv i1) (pv i2) (pv i3))) (fun i _ => 4 - (intOf i).toNat)
  case atStart => exact .inl ⟨rfl, OfRel.start w _⟩
  case round =>
    rcases hrel with ⟨rfl, hM⟩ | ⟨rfl, hM⟩ | ⟨rfl, hM⟩ | ⟨rfl, hM⟩ | ⟨rfl, hM⟩
    · have c0 := hM.lat.cell.1
      have g0 := hM.lat.cell.2.2.2.2.2.2.2.2 0
      have hw2 : IntKind.i64.wrap 0 = 0 := by decide
      go_wp2_with fail
      go_region_held3 (fun w' => True) (trivial) ((first | (go_at_call 93; refine (part17_any i0 _ (by assumption) (by assumption)).mono ?_; rintro e w1 ⟨rfl, nm, rfl⟩)))
      go_wp2
      go_roundw
      case rel => exact .inr (.inl (⟨rfl, hM.set0 _ _⟩))
      case measure => simp [intOf]
    · have c0 := hM.lat.cell.2.1
      have g0 := hM.lat.cell.2.2.2.2.2.2.2.2 1
      have hw2 : IntKind.i64.wrap 1 = 1 := by decide
      go_wp2_with fail
      go_region_held3 (fun w' => True) (trivial) ((first | (go_at_call 93; refine (part17_any i1 _ (by assumption) (by assumption)).mono ?_; rintro e w1 ⟨rfl, nm, rfl⟩)))
      go_wp2
      go_roundw
      case rel => exact .inr (.inr (.inl (⟨rfl, hM.set1 _ _⟩)))
      case measure => simp [intOf]
    · have c0 := hM.lat.cell.2.2.1
      have g0 := hM.lat.cell.2.2.2.2.2.2.2.2 2
      have hw2 : IntKind.i64.wrap 2 = 2 := by decide
      go_wp2_with fail
      go_region_held3 (fun w' => True) (trivial) ((first | (go_at_call 93; refine (part17_any i2 _ (by assumption) (by assumption)).mono ?_; rintro e w1 ⟨rfl, nm, rfl⟩)))
      go_wp2
      go_roundw
      case rel => exact .inr (.inr (.inr (.inl (⟨rfl, hM.set2 _ _⟩))))
      case measure => simp [intOf]
    · have c0 := hM.lat.cell.2.2.2.1
      have g0 := hM.lat.cell.2.2.2.2.2.2.2.2 3
      have hw2 : IntKind.i64.wrap 3 = 3 := by decide
      go_wp2_with fail
      go_region_held3 (fun w' => True) (trivial) ((first | (go_at_call 93; refine (part17_any i3 _ (by assumption) (by assumption)).mono ?_; rintro e w1 ⟨rfl, nm, rfl⟩)))
      go_wp2
      go_roundw
      case rel => exact .inr (.inr (.inr (.inr (⟨rfl, hM.set3 _ _⟩))))
      case measure => simp [intOf]
    · go_wp2
      go_ret
      exact ⟨rfl, hM⟩
end Go.Proofs.YtojlgjdebokelabH
