import Derived.Test.YtojlgjdebokelabHCl
set_option linter.unusedVariables false
set_option linter.unusedSimpArgs false
namespace Go.Proofs.YtojlgjdebokelabH
open Go.RowKit Go.Proofs.YtojlgjdebokelabW.PrintWords Go.Proofs.YtojlgjdebokelabW.PrintMore Go.Proofs.YtojlgjdebokelabW
theorem below_of_grown {w w' : World} (h : w.grownBy w' none) : Below w.heap.size w w' := ⟨h.os, h.tape, h.output, h.size, fun i hi => h.block i hi (by simp)⟩
theorem Fil.lt {w wr : World} {t : TypeId} {on i0 i1 i2 i3 : Int} (h : Fil w wr t on i0 i1 i2 i3) : w.heap.size < wr.heap.size := (Array.getElem?_eq_some_iff.1 h.box).1
theorem Fil.grow {w wr w1 : World} {t : TypeId} {on i0 i1 i2 i3 : Int} (h : Fil w wr t on i0 i1 i2 i3) (hg : wr.grownBy w1 none) : Fil w w1 t on i0 i1 i2 i3 :=
  ⟨(hg.block _ h.lt (by simp)).trans h.box, h.grown.trans hg⟩
theorem Fil.below {w wr : World} {t : TypeId} {on i0 i1 i2 i3 : Int} (h : Fil w wr t on i0 i1 i2 i3) : Below w.heap.size w wr := below_of_grown h.grown
theorem thr_long (A : Option Addr) (n c : Nat) (on i0 i1 i2 i3 : Int) (v2 : Value) (w : World) (hl : 120 < n) :
    Calls Try.prog 76 #[.slice A n c, fval on i0 i1 i2 i3, v2] w fun e w' => e = .returned (.tuple #[.slice none 0 0, .int .i64 2]) ∧ Below w.heap.size w w' := by
  have h1 : (120 : Int) < (n : Int) := by omega
  go_enter Try.func76, Try.ntmps76
  go_wp2
  go_ret2
  exact ⟨rfl, below_alloc (Below.refl _ _) _⟩
set_option maxRecDepth 100000 in
theorem thr_bad (A : Option Addr) (n c : Nat) (on i0 i1 i2 i3 : Int) (v2 : Value) (w : World) (hl : n ≤ 120) (hf : ¬ Fok on i0 i1 i2 i3) :
    Calls Try.prog 76 #[.slice A n c, fval on i0 i1 i2 i3, v2] w fun e w' => e = .returned (.tuple #[.slice none 0 0, .int .i64 1]) ∧ Below w.heap.size w w' := by
  have h1 : ¬ (120 : Int) < (n : Int) := by omega
  have hid := Lib.hid hf
  clear hf
  have hF := Fil.start w 51 on i0 i1 i2 i3
  go_enter Try.func76, Try.ntmps76
  go_wp2_with (go_at_call 36; refine (tcheck_any on i0 i1 i2 i3 1 _ (by rw [if_neg hid.out])).mono ?_; rintro e w1 ⟨rfl, hg⟩; (replace hF := hF.grow hg); clear hg)
  go_ret2
  exact ⟨rfl, hF.below⟩
set_option maxRecDepth 100000 in
theorem thr_off (A : Option Addr) (c : Nat) (l : List Int) (i0 i1 i2 i3 : Int) (v2 : Value) (w : World) (hr : Kd.C (Kd.int .i32) w A l.length l) (hl : l.length ≤ 120) (hf : Fok 0 i0 i1 i2 i3) :
    Calls Try.prog 76 #[.slice A l.length c, fval 0 i0 i1 i2 i3, v2] w fun e w' => ∃ v, e = .returned (.tuple #[v, .int .i64 0]) ∧ Kd.R (Kd.int .i32) 21 w' w.heap.size (fun _ => True) v l ∧ Below w.heap.size w w' := by
  have h1 : ¬ (120 : Int) < (l.length : Int) := by omega
  have hid := Lib.hid hf
  have Hr := Lib.hid hr
  clear hf hr
  have hF := Fil.start w 51 0 i0 i1 i2 i3
  go_enter Try.func76, Try.ntmps76
  go_wp2_with (first
    | (go_at_call 36; refine (tcheck_any 0 i0 i1 i2 i3 0 _ (by rw [if_pos hid.out])).mono ?_; rintro e w1 ⟨rfl, hg⟩; (replace hF := hF.grow hg); clear hg)
    | (go_at_call 99; refine (clone32_any A c l _ (Kd.C_below Hr.out hF.below) (by omega)).mono ?_; rintro e w2 ⟨v, rfl, hR, hb⟩; (have hle := hF.below.size); (replace hF := hF.grow (grown_of_below hb none)); (replace hR := Lib.hid (Kd.R_lower hR hle)); clear hb hle; (have d0 := hF.cells.1)))
  go_ret2
  exact ⟨_, rfl, hR.out, hF.below⟩
end Go.Proofs.YtojlgjdebokelabH
