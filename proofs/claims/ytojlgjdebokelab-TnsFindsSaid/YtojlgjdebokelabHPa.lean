import Derived.Test.YtojlgjdebokelabHTru
set_option linter.unusedVariables false
set_option linter.unusedSimpArgs false
namespace Go.Proofs.YtojlgjdebokelabH
open Go.RowKit Go.Proofs.YtojlgjdebokelabW.PrintWords Go.Proofs.YtojlgjdebokelabW.PrintMore Go.Proofs.YtojlgjdebokelabW
def partsv (on i0 i1 i2 i3 : Int) : List Int × Int := if Fok on i0 i1 i2 i3 then (if on = 0 then [0, 0, 0, 0] else [pv i0, pv i1, pv i2, pv i3], 0) else ([], 1)
theorem Lat.parts {L : Nat} {w : World} {k0 k1 k2 k3 s0 s1 s2 s3 : Int} (h : Lat L w k0 k1 k2 k3 s0 s1 s2 s3) : Kd.C (Kd.int .i16) w (some ⟨L, 0, none⟩) [k0, k1, k2, k3].length [k0, k1, k2, k3] := by
  refine Kd.C_of_reads (d := (0 : Int)) ⟨rfl, by simp, fun _ => ⟨_, rfl, fun j hj => ?_⟩⟩
  rw [add_plain]
  obtain ⟨c0, c1, c2, c3, _⟩ := h.cell
  have hj : j < 4 := hj
  have : j = 0 ∨ j = 1 ∨ j = 2 ∨ j = 3 := by omega
  rcases this with rfl | rfl | rfl | rfl
  · exact c0
  · exact c1
  · exact c2
  · exact c3
set_option maxRecDepth 100000 in
theorem parts_any (on i0 i1 i2 i3 : Int) (w : World) :
    Calls Try.prog 32 #[fval on i0 i1 i2 i3] w fun e w' => ∃ v, e = .returned (.tuple #[v, .int .i64 (partsv on i0 i1 i2 i3).2]) ∧ Kd.R (Kd.int .i16) 73 w' w.heap.size (fun _ => True) v (partsv on i0 i1 i2 i3).1 ∧ Below w.heap.size w w' := by
  unfold partsv
  have hF := Fil.start w 51 on i0 i1 i2 i3
  by_cases hf : Fok on i0 i1 i2 i3
  · rw [if_pos hf]
    have hid := Lib.hid hf
    rcases hf.1 with rfl | rfl
    · rw [if_pos rfl]
      clear hf
      have hmk : ∀ W : World, (Instr.makeSlice 38 (.int .i64 4) (.int .i64 4)).run Try.prog W = .ok (.slice (some ⟨W.heap.size, 0, none⟩) 4 4) (W.alloc (.cells (madeCells #[.int .i16 0] 4) 73)) := fun W => print_make 38 73 .i16 2 Try.underlying38 clone16_info (by decide) 4 (by omega) W
      go_enter Try.func32, Try.ntmps32
      go_wp2_with (go_at_call 36; refine (tcheck_any 0 i0 i1 i2 i3 0 _ (by rw [if_pos hid.out])).mono ?_; rintro e w1 ⟨rfl, hg⟩; (replace hF := hF.grow hg); (have d0 := hF.cells.1); clear hg)
      go_ret2
      have h := own_made w1 w1.heap.size 73 .i16 4 (Nat.le_refl _) (by decide)
      have hR : Kd.R (Kd.int .i16) 73 (w1.alloc (.cells (madeCells #[.int .i16 0] 4) 73)) w1.heap.size (fun _ => True) (.slice (some ⟨w1.heap.size, 0, none⟩) 4 4) [0, 0, 0, 0] := Kd.R_of_own h (fun _ _ => trivial)
      exact ⟨_, rfl, Kd.R_lower hR hF.below.size, hF.below.alloc hF.below.size _⟩
    · rw [if_neg (by decide)]
      clear hf
      go_enter Try.func32, Try.ntmps32
      go_wp2_with (first
        | (go_at_call 36; refine (tcheck_any 1 i0 i1 i2 i3 0 _ (by rw [if_pos hid.out])).mono ?_; rintro e w1 ⟨rfl, hg⟩; (replace hF := hF.grow hg); (obtain ⟨d0, d1, d2, d3, d4⟩ := hF.cells); clear hg)
        | (go_at_call 74; refine (tof_any i0 i1 i2 i3 _ (by have := hid.out.2.1; unfold fin at this; omega) (by have := hid.out.2.2.1; unfold fin at this; omega) (by have := hid.out.2.2.2.1; unfold fin at this; omega) (by have := hid.out.2.2.2.2; unfold fin at this; omega) 1).mono ?_; rintro e w3 ⟨rfl, hO⟩; (replace hF := hF.grow hO.grown); (replace hO := hO.lat); clear d0 d1 d2 d3 d4)
        | (go_at_call 75; refine (clone16_any (some ⟨w1.heap.size + 1, 0, none⟩) 4 [pv i0, pv i1, pv i2, pv i3] _ hO.parts (by simp)).mono ?_; rintro e w4 ⟨v, rfl, hR, hb⟩; (replace hR := Lib.hid (Kd.R_lower hR hF.below.size)); (replace hb := Lib.hid (below_then hF.below hF.below.size hb)); clear hO hF))
      go_ret2
      exact ⟨_, rfl, hR.out, hb.out⟩
  · rw [if_neg hf]
    have hid := Lib.hid hf
    clear hf
    go_enter Try.func32, Try.ntmps32
    go_wp2_with (go_at_call 36; refine (tcheck_any on i0 i1 i2 i3 1 _ (by rw [if_neg hid.out])).mono ?_; rintro e w1 ⟨rfl, hg⟩; (replace hF := hF.grow hg); clear hg)
    go_ret2
    exact ⟨_, rfl, Kd.R_nil _ _ _ _ _, hF.below⟩
end Go.Proofs.YtojlgjdebokelabH
