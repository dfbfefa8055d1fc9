/- What mixer.Pan answers: its two sides woven. -/
import Derived.Test.YtojlgjdebokelaaHMix
import Derived.Test.YtojlgjdebokelaaPLib2x1

set_option linter.unusedVariables false
namespace Go.Proofs.YtojlgjdebokelaaH
open Go.RowKit Go.Proofs.YtojlgjdebokelaaW.PrintWords Go.Proofs.YtojlgjdebokelaaW.PrintMore Go.Proofs.Ytojlgjdebokelaa.PLib2

/-- A block of two slices, made at S. -/
structure Sides (S : Nat) (w wr : World) (v1 v2 : Value) : Prop where
  box : wr.heap[S]? = some (.cells #[v1, v2] 31 (0, 0))
  below : Below S w wr
theorem Sides.new (w : World) : Sides w.heap.size w (w.alloc (.cells #[.slice none 0 0, .slice none 0 0] 31)) (.slice none 0 0) (.slice none 0 0) :=
  ⟨heap_alloc_new w _, (Below.refl _ _).alloc (Nat.le_refl _) _⟩
theorem Sides.lt {S : Nat} {w wr : World} {v1 v2 : Value} (h : Sides S w wr v1 v2) : S < wr.heap.size := (Array.getElem?_eq_some_iff.1 h.box).1
theorem Sides.cell {S : Nat} {w wr : World} {v1 v2 : Value} (h : Sides S w wr v1 v2) : wr.cell? ⟨S, 0, none⟩ = some v1 ∧ wr.cell? ⟨S, 1, none⟩ = some v2 ∧ wr.frozen? ⟨S, 0, none⟩ = false ∧ wr.frozen? ⟨S, 1, none⟩ = false := by
  have h0 := cell_of_row wr S 0 #[v1, v2] 31 (0, 0) h.box
  have h1 := cell_of_row wr S 1 #[v1, v2] 31 (0, 0) h.box
  have hb := h.box
  exact ⟨by simpa using h0, by simpa using h1, by simp [World.frozen?, hb], by simp [World.frozen?, hb]⟩
theorem Sides.on {S : Nat} {w wr w1 : World} {v1 v2 : Value} (h : Sides S w wr v1 v2) (hb : Below wr.heap.size wr w1) : Sides S w w1 v1 v2 :=
  ⟨(hb.block S h.lt).trans h.box, below_then h.below (Nat.le_of_lt h.lt) hb⟩
theorem Sides.set0 {S : Nat} {w wr : World} {v1 v2 u : Value} (h : Sides S w wr v1 v2) : Sides S w (wr.setCell ⟨S, 0, none⟩ u) u v2 :=
  ⟨by have hb := h.box; simp [World.setCell, Array.getElem?_modify, hb], h.below.setCell (by simp) _⟩
theorem Sides.set1 {S : Nat} {w wr : World} {v1 v2 u : Value} (h : Sides S w wr v1 v2) : Sides S w (wr.setCell ⟨S, 1, none⟩ u) v1 u :=
  ⟨by have hb := h.box; simp [World.setCell, Array.getElem?_modify, hb], h.below.setCell (by simp) _⟩
theorem Sides.reads {S : Nat} {w wr : World} {v1 v2 : Value} {p q : List Int} (h : Sides S w wr v1 v2) (h1 : Kd.R (Kd.int .i16) 22 wr S (fun _ => True) v1 p) (h2 : Kd.R (Kd.int .i16) 22 wr S (fun _ => True) v2 q) :
    Kd.C (Kd.slice 22 (Kd.int .i16)) wr (some ⟨S, 0, none⟩) [p, q].length [p, q] := by
  obtain ⟨A1, c1, rfl, l1, r1⟩ := Kd.R_reads h1
  obtain ⟨A2, c2, rfl, l2, r2⟩ := Kd.R_reads h2
  obtain ⟨k0, k1, _, _⟩ := h.cell
  refine ⟨rfl, by simp, fun _ => ⟨_, rfl, ?_⟩⟩
  intro j x hx
  match j, hx with
  | 0, hx =>
    obtain rfl : p = x := by simpa using hx
    refine ⟨[.slice A1 p.length c1], rfl, ⟨A1, c1, rfl, l1, r1⟩, ?_⟩
    intro i u hu
    match i, hu with
    | 0, hu =>
      obtain rfl : Value.slice A1 p.length c1 = u := by simpa using hu
      simpa [Addr.add, Kd.slice] using k0
    | i + 1, hu => simp at hu
  | 1, hx =>
    obtain rfl : q = x := by simpa using hx
    refine ⟨[.slice A2 q.length c2], rfl, ⟨A2, c2, rfl, l2, r2⟩, ?_⟩
    intro i u hu
    match i, hu with
    | 0, hu =>
      obtain rfl : Value.slice A2 q.length c2 = u := by simpa using hu
      simpa [Addr.add, Kd.slice] using k1
    | i + 1, hu => simp at hu
  | j + 2, hx => simp at hx
theorem mix_any (Aa Ab : Option Addr) (ca cb : Nat) (a b : List Int) (x y : Int) (w : World) (hra : Kd.C (Kd.int .i16) w Aa a.length a) (hca : a.length ≤ ca) (hrb : Kd.C (Kd.int .i16) w Ab b.length b) (hcb : b.length ≤ cb)
    (la : ∀ x ∈ a, -32768 ≤ x ∧ x ≤ 32767) (lb : ∀ x ∈ b, -32768 ≤ x ∧ x ≤ 32767) (hx : -32768 ≤ x ∧ x ≤ 32767) (hy : -32768 ≤ y ∧ y ≤ 32767) (na : a.length ≤ 20000) (nb : b.length ≤ 20000) :
    Calls Try.prog 41 #[.slice Aa a.length ca, .slice Ab b.length cb, .int .i16 x, .int .i16 y] w fun e w' => ∃ v : Value, e = .returned v ∧ Kd.R (Kd.int .i16) 22 w' w.heap.size (fun _ => True) v (tab (max a.length b.length) (mixv a b x y)) ∧ Below w.heap.size w w' := by
  refine mix_walk _ Aa Ab ca cb a b x y w hra hca hrb hcb la lb hx hy na nb ?_
  by_cases c : (a.length : Int) < b.length
  · exact .inl ⟨c, by omega⟩
  · exact .inr ⟨c, by omega⟩
/-- Mix of one list and none. -/
theorem mix_one (A : Option Addr) (c : Nat) (l : List Int) (x : Int) (w : World) (hr : Kd.C (Kd.int .i16) w A l.length l) (hc : l.length ≤ c)
    (hl : ∀ x ∈ l, -32768 ≤ x ∧ x ≤ 32767) (hx : -32768 ≤ x ∧ x ≤ 32767) (nl : l.length ≤ 20000) :
    Calls Try.prog 41 #[.slice A l.length c, .slice none 0 0, .int .i16 x, .int .i16 0] w fun e w' => ∃ v : Value, e = .returned v ∧ Kd.R (Kd.int .i16) 22 w' w.heap.size (fun _ => True) v (tab l.length (mixv l [] x 0)) ∧ Below w.heap.size w w' := by
  have h := mix_any A none c 0 l [] x 0 w hr hc ⟨rfl, by simp, fun h => by simp at h⟩ (by simp) hl (by simp) hx (by omega) nl (by simp)
  simpa using h
theorem pan_no (A : Option Addr) (n c : Nat) (x : Int) (w : World) (hx : x < 0) :
    Calls Try.prog 39 #[.slice A n c, .int .i16 x] w fun e w' => e = .returned (.tuple #[.slice none 0 0, .int .i64 1]) ∧ w = w' := by
  go_enter Try.func39, Try.ntmps39
  go_wp2
  go_ret2
  exact ⟨rfl, rfl⟩
set_option maxRecDepth 100000 in
set_option maxHeartbeats 2000000 in
theorem pan_yes (A : Option Addr) (c : Nat) (l : List Int) (x : Int) (w : World) (hr : Kd.C (Kd.int .i16) w A l.length l) (hc : l.length ≤ c)
    (hl : ∀ x ∈ l, -32768 ≤ x ∧ x ≤ 32767) (hx : 0 ≤ x ∧ x ≤ 32767) (nl : l.length ≤ 20000) (k : Nat) (r1 : List Int) (r2 : Int) (hw : pcm_Weave.f k [tab l.length (mixv l [] x 0), tab l.length (mixv l [] (32767 - x) 0)] = some (r1, r2)) :
    Calls Try.prog 39 #[.slice A l.length c, .int .i16 x] w fun e w' => ∃ v : Value, e = .returned (.tuple #[v, .int .i64 r2]) ∧ Kd.R (Kd.int .i16) 22 w' w.heap.size (fun _ => True) v r1 ∧ Below w.heap.size w w' := by
  have hmk : ∀ w : World, (Instr.makeSlice 83 (.int .i64 2) (.int .i64 2)).run Try.prog w = .ok (.slice (some ⟨w.heap.size, 0, none⟩) 2 2) (w.alloc (.cells #[.slice none 0 0, .slice none 0 0] 31)) := fun _ => by kernel_rfl
  have i0 : ∀ w : World, (Instr.index 84 (.agg #[.int .i16 x, .int .i16 (32767 - x)]) (.int .i64 0)).run Try.prog w = .ok (.int .i16 x) w := fun _ => by kernel_rfl
  have i1 : ∀ w : World, (Instr.index 84 (.agg #[.int .i16 x, .int .i16 (32767 - x)]) (.int .i64 1)).run Try.prog w = .ok (.int .i16 (32767 - x)) w := fun _ => by kernel_rfl
  have Hr := Lib.hid hr
  have Hl := Lib.hid hl
  have Hw := Lib.hid hw
  clear hr hl hw
  go_enter Try.func39, Try.ntmps39
  go_wp2
  go_loopw [16] (fun i wr => (i = .int .i64 0 ∧ Sides w.heap.size w wr (.slice none 0 0) (.slice none 0 0)) ∨ (i = .int .i64 1 ∧ ∃ v1, Sides w.heap.size w wr v1 (.slice none 0 0) ∧ Kd.R (Kd.int .i16) 22 wr w.heap.size (fun _ => True) v1 (tab l.length (mixv l [] x 0))) ∨ (i = .int .i64 2 ∧ ∃ v1 v2, Sides w.heap.size w wr v1 v2 ∧ Kd.R (Kd.int .i16) 22 wr w.heap.size (fun _ => True) v1 (tab l.length (mixv l [] x 0)) ∧ Kd.R (Kd.int .i16) 22 wr w.heap.size (fun _ => True) v2 (tab l.length (mixv l [] (32767 - x) 0)))) (fun i _ => 2 - (intOf i).toNat)
  case atStart => exact .inl ⟨rfl, Sides.new w⟩
  case round =>
    rcases hrel with ⟨rfl, hS⟩ | ⟨rfl, v1, hS, hR1⟩ | ⟨rfl, v1, v2, hS, hR1, hR2⟩
    · have hCl := Kd.C_below Hr.out (show Below w.heap.size w wr from hS.below)
      go_wp2_with fail
      refine (mix_one A c l x wr hCl hc Hl.out (by omega) nl).mono ?_
      rintro e w1 ⟨v1, rfl, hR1, hB1⟩
      obtain ⟨A1, c1, rfl⟩ := Kd.R_slice hR1
      have hS1 := hS.on hB1
      obtain ⟨k0, k1, f0, f1⟩ := hS1.cell
      have HS1 := Lib.hid hS1
      have HR1 := Lib.hid hR1
      have HB1 := Lib.hid hB1
      have HS := Lib.hid hS
      clear hS1 hR1 hB1 hS hCl
      go_wp2
      go_roundw
      case rel => exact .inr (.inl ⟨rfl, _, HS1.out.set0, Kd.R_set (Kd.R_lower HR1.out (Nat.le_of_lt HS.out.lt)) HS1.out.box (by decide) 0 _⟩)
      case measure => simp [intOf]
    · have hCl := Kd.C_below Hr.out (show Below w.heap.size w wr from hS.below)
      obtain ⟨A1, c1, rfl⟩ := Kd.R_slice hR1
      go_wp2_with fail
      refine (mix_one A c l (32767 - x) wr hCl hc Hl.out (by omega) nl).mono ?_
      rintro e w1 ⟨v2, rfl, hR2, hB1⟩
      obtain ⟨A2, c2, rfl⟩ := Kd.R_slice hR2
      have hS1 := hS.on hB1
      obtain ⟨k0, k1, f0, f1⟩ := hS1.cell
      have HS1 := Lib.hid hS1
      have HR1 := Lib.hid (Kd.R_below hR1 hB1)
      have HR2 := Lib.hid hR2
      have HB1 := Lib.hid hB1
      have HS := Lib.hid hS
      clear hS1 hR1 hR2 hB1 hS hCl
      go_wp2
      go_roundw
      case rel => exact .inr (.inr ⟨rfl, _, _, HS1.out.set1, Kd.R_set HR1.out HS1.out.box (by decide) 1 _, Kd.R_set (Kd.R_lower HR2.out (Nat.le_of_lt HS.out.lt)) HS1.out.box (by decide) 1 _⟩)
      case measure => simp [intOf]
    · have hC := hS.reads hR1 hR2
      have HS := Lib.hid hS
      have HC := Lib.hid hC
      clear hS hC hR1 hR2
      go_wp2_with fail
      refine (pcm_Weave.calls k _ 2 _ r1 r2 wr HC.out (by simp) Hw.out).mono ?_
      rintro e w1 ⟨v, rfl, hR, hB1⟩
      obtain ⟨A1, c1, rfl⟩ := Kd.R_slice hR
      have HR := Lib.hid hR
      have HB1 := Lib.hid hB1
      clear hR hB1
      go_wp2
      go_ret2
      exact ⟨_, rfl, Kd.R_lower HR.out (Nat.le_of_lt HS.out.lt), (HS.out.on HB1.out).below⟩
end Go.Proofs.YtojlgjdebokelaaH
