import Derived.Test.YtojlgjdebokelabHSm
set_option linter.unusedVariables false
set_option linter.unusedSimpArgs false
namespace Go.Proofs.YtojlgjdebokelabH
open Go.RowKit Go.Proofs.YtojlgjdebokelabW.PrintWords Go.Proofs.YtojlgjdebokelabW.PrintMore Go.Proofs.YtojlgjdebokelabW
theorem I32_lit (l : List Int) (h : l.all (fun x => decide (-2147483648 ≤ x ∧ x ≤ 2147483647)) = true) : ∀ x ∈ l, I32 x := fun x hx => by
  have := List.all_eq_true.1 h x hx
  simpa [I32] using this
set_option maxRecDepth 100000 in
theorem alive17_any (w : World) : Calls Try.prog 20 #[] w fun e w' => e = .returned (.bool true) ∧ Below w.heap.size w w' := by
  have hmk : ∀ W : World, (Instr.makeSlice 25 (.int .i64 40) (.int .i64 40)).run Try.prog W = .ok (.slice (some ⟨W.heap.size, 0, none⟩) 40 40) (W.alloc (.cells (madeCells #[.int .i32 0] 40) 21)) := fun W => print_make 25 21 .i32 4 Try.underlying25 clone32_info (by decide) 40 (by omega) W
  have h0 := own_made w w.heap.size 21 .i32 40 (Nat.le_refl _) (by decide)
  have hR : Kd.R (Kd.int .i32) 21 (w.alloc (.cells (madeCells #[.int .i32 0] 40) 21)) w.heap.size (fun _ => True) (.slice (some ⟨w.heap.size, 0, none⟩) 40 40) (List.replicate 40 0) := Kd.R_of_own h0 (fun _ _ => trivial)
  have HC : Hid (Kd.C (Kd.int .i32) (w.alloc (.cells (madeCells #[.int .i32 0] 40) 21)) (some ⟨w.heap.size, 0, none⟩) (List.replicate 40 0).length (List.replicate 40 0)) := by
    obtain ⟨A, c, e, _, hC⟩ := Kd.R_reads hR
    injection e with e1 e2 e3
    subst e1
    exact hC
  have HB : Hid (Below w.heap.size w (w.alloc (.cells (madeCells #[.int .i32 0] 40) 21))) := (Below.refl _ _).alloc (Nat.le_refl _) _
  clear h0 hR
  have hq : ∀ w, (binOp BinOp.eql 51 (fval 0 0 0 0 0) (fval 0 0 0 0 0)).run Try.prog w = .ok (.bool true) w := fun _ => by kernel_rfl
  go_enter Try.func20, Try.ntmps20
  go_wp2_with (go_at_call 21; refine (find_any (some ⟨w.heap.size, 0, none⟩) 40 (List.replicate 40 0) _ HC.out (by simp) (I32_lit _ (by decide))).mono ?_; rintro e w1 ⟨rfl, hb1⟩; rw [fd_zeros]; (replace HB := Lib.hid (below_then HB.out (by simp) hb1)); clear hb1 HC)
  have hle : w.heap.size ≤ w1.heap.size := HB.out.size
  have hF : Hid (((w1.alloc (.cells (row5 0 0 0 0 0) 51)).alloc (.cells #[.int .i32 5, .int .i32 (-7), .int .i32 900] 21)).heap[w1.heap.size]? = some (.cells (row5 0 0 0 0 0) 51 (0, 0))) := blk_alloc (heap_alloc_new w1 _) _
  have hL : Hid (Kd.C (Kd.int .i32) ((w1.alloc (.cells (row5 0 0 0 0 0) 51)).alloc (.cells #[.int .i32 5, .int .i32 (-7), .int .i32 900] 21)) (some ⟨w1.heap.size + 1, 0, none⟩) [(5 : Int), -7, 900].length [5, -7, 900]) := by
    have ho := own_lit (w1.alloc (.cells (row5 0 0 0 0 0) 51)) (w1.alloc (.cells (row5 0 0 0 0 0) 51)).heap.size 21 .i32 [5, -7, 900] (Nat.le_refl _) (by simp)
    have hR : Kd.R (Kd.int .i32) 21 _ _ (fun _ => True) _ [5, -7, 900] := Kd.R_of_own ho (fun _ _ => trivial)
    obtain ⟨A, c, e, _, hC⟩ := Kd.R_reads hR
    injection e with e1 e2 e3
    subst e1
    have e4 : (w1.alloc (.cells (row5 0 0 0 0 0) 51)).heap.size = w1.heap.size + 1 := by simp
    rw [e4] at hC
    exact hC
  have HB2 : Hid (Below w.heap.size w ((w1.alloc (.cells (row5 0 0 0 0 0) 51)).alloc (.cells #[.int .i32 5, .int .i32 (-7), .int .i32 900] 21))) := (HB.out.alloc hle _).alloc (by simp; omega) _
  go_wp2_with fail
  refine (runf_any (some ⟨w1.heap.size + 1, 0, none⟩) 3 [5, -7, 900] 1 8 8 8 8 _ hL.out (I32_lit _ (by decide))).mono ?_
  rw [run_eights]
  rintro e w2 ⟨v, rfl, hR, hb⟩
  replace hF := Lib.hid (blk_below hF.out hb)
  replace hL := Lib.hid (Kd.C_below hL.out hb)
  replace HB2 := Lib.hid (below_then HB2.out (by simp; omega) hb)
  clear hb
  go_wp2_with fail
  refine (runf_any (some ⟨w1.heap.size + 1, 0, none⟩) 3 [5, -7, 900] 2 0 0 0 0 _ hL.out (I32_lit _ (by decide))).mono ?_
  rw [run_bad]
  rintro e w3 ⟨v3, rfl, hR3, hb⟩
  replace hF := Lib.hid (blk_below hF.out hb)
  replace hL := Lib.hid (Kd.C_below hL.out hb)
  replace hR := Kd.R_below hR hb
  replace HB2 := Lib.hid (below_then HB2.out HB2.out.size hb)
  obtain ⟨A, c, rfl, hc, hC⟩ := Kd.R_reads hR
  have hC := Lib.hid hC
  clear hb hR hR3
  have d0 : w3.cell? ⟨w1.heap.size, 0, none⟩ = some (.int .i64 0) := blk_cell hF.out 0
  have d1 : w3.cell? ⟨w1.heap.size, 1, none⟩ = some (.int .i64 0) := blk_cell hF.out 1
  have d2 : w3.cell? ⟨w1.heap.size, 2, none⟩ = some (.int .i64 0) := blk_cell hF.out 2
  have d3 : w3.cell? ⟨w1.heap.size, 3, none⟩ = some (.int .i64 0) := blk_cell hF.out 3
  have d4 : w3.cell? ⟨w1.heap.size, 4, none⟩ = some (.int .i64 0) := blk_cell hF.out 4
  go_wp2_with (go_at_call 12; refine (same32_any _ _ _ _ [5, -7, 900] _ hL.out (by simp) hC.out hc (by simp)).mono ?_; rintro e w4 ⟨rfl, nm, rfl⟩)
  go_ret
  exact ⟨rfl, pw_below_drewN HB2.out nm⟩
end Go.Proofs.YtojlgjdebokelabH
