import Derived.Test.YtojlgjdebokelabHAv
set_option linter.unusedVariables false
set_option linter.unusedSimpArgs false
namespace Go.Proofs.YtojlgjdebokelabH
open Go.RowKit Go.Proofs.YtojlgjdebokelabW.PrintWords Go.Proofs.YtojlgjdebokelabW.PrintMore Go.Proofs.YtojlgjdebokelabW
def tr7 (l : List Int) (w : World) (e : Ending) (w' : World) : Prop := e = .returned (.bool true) ∧ Below w.heap.size w w'
/-- What the law holds in its loop. -/
structure L7 (w wr : World) (on i0 i1 i2 i3 : Int) (g1 c1 : Nat) (p : List Int) (v2 : Value) (a : List Int) (v3 : Value) (b : List Int) : Prop where
  box : wr.heap[w.heap.size]? = some (.cells (row5 on i0 i1 i2 i3) 54 (0, 0))
  r1 : Kd.R (Kd.int .i16) 73 wr w.heap.size (fun k => k = g1) (.slice (some ⟨g1, 0, none⟩) 4 c1) p
  r2 : Kd.R (Kd.int .i32) 21 wr w.heap.size (fun _ => True) v2 a
  r3 : Kd.R (Kd.int .i32) 21 wr w.heap.size (fun _ => True) v3 b
  below : Below w.heap.size w wr
theorem L7.drew {w wr : World} {on i0 i1 i2 i3 : Int} {g1 c1 : Nat} {p : List Int} {v2 : Value} {a : List Int} {v3 : Value} {b : List Int} (h : L7 w wr on i0 i1 i2 i3 g1 c1 p v2 a v3 b) (n : Nat) : L7 w (wr.drewN n) on i0 i1 i2 i3 g1 c1 p v2 a v3 b :=
  ⟨blk_drewN h.box n, Kd.R_drewN h.r1 n, Kd.R_drewN h.r2 n, Kd.R_drewN h.r3 n, pw_below_drewN h.below n⟩
theorem R_C {α : Type} {d : Kd α} {e base c n : Nat} {ok : Nat → Prop} {w : World} {A : Option Addr} {xs : List α} (h : d.R e w base ok (.slice A n c) xs) : d.C w A xs.length xs := by
  obtain ⟨A', c', e, h1, h2⟩ := Kd.R_reads h
  injection e with e1 _ e2
  subst e1
  exact h2
theorem L7.under {w wr w1 : World} {on i0 i1 i2 i3 : Int} {g1 c1 : Nat} {p : List Int} {v2 : Value} {a : List Int} {v3 : Value} {b : List Int} (h : L7 w wr on i0 i1 i2 i3 g1 c1 p v2 a v3 b) (hb : Below wr.heap.size wr w1) : L7 w w1 on i0 i1 i2 i3 g1 c1 p v2 a v3 b :=
  ⟨blk_below h.box hb, Kd.R_below h.r1 hb, Kd.R_below h.r2 hb, Kd.R_below h.r3 hb, below_then h.below h.below.size hb⟩
theorem runL_len (k0 k1 k2 k3 : Int) : ∀ (l : List Int) (s0 s1 s2 s3 : Int), (runL k0 k1 k2 k3 l s0 s1 s2 s3).length = l.length
  | [], _, _, _, _ => rfl
  | _ :: t, _, _, _, _ => by simp only [runL, List.length_cons, runL_len k0 k1 k2 k3 t]
theorem undoL_len (k0 k1 k2 k3 : Int) : ∀ (l : List Int) (s0 s1 s2 s3 : Int), (undoL k0 k1 k2 k3 l s0 s1 s2 s3).length = l.length
  | [], _, _, _, _ => rfl
  | _ :: t, _, _, _, _ => by simp only [undoL, List.length_cons, undoL_len k0 k1 k2 k3 t]
set_option maxRecDepth 100000 in
theorem l7_far (A : Option Addr) (n c : Nat) (on i0 i1 i2 i3 : Int) (w : World) (hl : 300 < n) :
    Calls Try.prog 7 #[.slice A n c, fval on i0 i1 i2 i3] w fun e w' => e = .returned (.bool true) ∧ Below w.heap.size w w' := by
  have h300 : (300 : Int) < (n : Int) := by omega
  have HB : Hid (Below w.heap.size w (w.alloc (.cells (row5 on i0 i1 i2 i3) 54))) := (Below.refl _ _).alloc (Nat.le_refl _) _
  go_enter Try.func7, Try.ntmps7
  go_wp2_with (go_at_call 20; refine (alive17_any _).mono ?_; rintro e w1 ⟨rfl, hb⟩; (replace HB := Lib.hid (below_then HB.out (by simp) hb)); clear hb)
  go_ret
  exact ⟨rfl, HB.out⟩
set_option maxRecDepth 100000 in
set_option maxHeartbeats 4000000 in
theorem l7_bad_short (A : Option Addr) (c : Nat) (l : List Int) (on i0 i1 i2 i3 : Int) (hl : l.length ≤ 120) (hf : ¬ Fok on i0 i1 i2 i3) (w : World) (hr : Kd.C (Kd.int .i32) w A l.length l) (hc : l.length ≤ c) (hx : ∀ x ∈ l, I32 x) :
    Calls Try.prog 7 #[.slice A l.length c, fval on i0 i1 i2 i3] w (tr7 l w) := by
  have Hr := Lib.hid hr
  have Hx := Lib.hid hx
  have Hc := Lib.hid hc
  clear hr hx hc
  have HB : Hid (Below w.heap.size w (w.alloc (.cells (row5 on i0 i1 i2 i3) 54))) := (Below.refl _ _).alloc (Nat.le_refl _) _
  have HF : Hid ((w.alloc (.cells (row5 on i0 i1 i2 i3) 54)).heap[w.heap.size]? = some (.cells (row5 on i0 i1 i2 i3) 54 (0, 0))) := heap_alloc_new w _
  have h300 : ¬ (300 : Int) < (l.length : Int) := by omega
  have h120 : ¬ (120 : Int) < (l.length : Int) := by omega
  have e1 : Hid (partsv on i0 i1 i2 i3 = ([], 1)) := by show _ = _; unfold partsv; rw [if_neg hf]
  have e2 : Hid (thrv runL l on i0 i1 i2 i3 = ([], 1)) := by show _ = _; unfold thrv; rw [if_neg (by omega), if_neg hf]
  have e3 : Hid (thrv undoL l on i0 i1 i2 i3 = ([], 1)) := by show _ = _; unfold thrv; rw [if_neg (by omega), if_neg hf]
  have e4 : Hid (decide (Fok on i0 i1 i2 i3) = false) := decide_eq_false hf
  have hf := Lib.hid hf
  go_enter Try.func7, Try.ntmps7
  go_wp2_with fail
  refine (alive17_any _).mono ?_
  rintro e w1 ⟨rfl, hb⟩
  replace HF := Lib.hid (blk_below HF.out hb)
  replace HB := Lib.hid (below_then HB.out (by simp) hb)
  clear hb
  have d0 : w1.cell? ⟨w.heap.size, 0, none⟩ = _ := blk_cell HF.out 0
  have d1 : w1.cell? ⟨w.heap.size, 1, none⟩ = _ := blk_cell HF.out 1
  have d2 : w1.cell? ⟨w.heap.size, 2, none⟩ = _ := blk_cell HF.out 2
  have d3 : w1.cell? ⟨w.heap.size, 3, none⟩ = _ := blk_cell HF.out 3
  have d4 : w1.cell? ⟨w.heap.size, 4, none⟩ = _ := blk_cell HF.out 4
  go_wp2_with fail
  clear d0 d1 d2 d3 d4
  refine (parts_any on i0 i1 i2 i3 _).mono ?_
  rw [e1.out]
  rintro e w2 ⟨v1, rfl, hR1, hb⟩
  replace HF := Lib.hid (blk_below HF.out hb)
  replace hR1 := Lib.hid (Kd.R_lower hR1 HB.out.size)
  replace HB := Lib.hid (below_then HB.out HB.out.size hb)
  clear hb
  have d0 : w2.cell? ⟨w.heap.size, 0, none⟩ = _ := blk_cell HF.out 0
  have d1 : w2.cell? ⟨w.heap.size, 1, none⟩ = _ := blk_cell HF.out 1
  have d2 : w2.cell? ⟨w.heap.size, 2, none⟩ = _ := blk_cell HF.out 2
  have d3 : w2.cell? ⟨w.heap.size, 3, none⟩ = _ := blk_cell HF.out 3
  have d4 : w2.cell? ⟨w.heap.size, 4, none⟩ = _ := blk_cell HF.out 4
  go_wp2_with fail
  clear d0 d1 d2 d3 d4
  refine (runf_any A c l on i0 i1 i2 i3 _ (Kd.C_below Hr.out HB.out) Hx.out).mono ?_
  rw [e2.out]
  rintro e w3 ⟨v2, rfl, hR2, hb⟩
  replace HF := Lib.hid (blk_below HF.out hb)
  replace hR1 := Lib.hid (Kd.R_below hR1.out hb)
  replace hR2 := Lib.hid (Kd.R_lower hR2 HB.out.size)
  replace HB := Lib.hid (below_then HB.out HB.out.size hb)
  clear hb
  have d0 : w3.cell? ⟨w.heap.size, 0, none⟩ = _ := blk_cell HF.out 0
  have d1 : w3.cell? ⟨w.heap.size, 1, none⟩ = _ := blk_cell HF.out 1
  have d2 : w3.cell? ⟨w.heap.size, 2, none⟩ = _ := blk_cell HF.out 2
  have d3 : w3.cell? ⟨w.heap.size, 3, none⟩ = _ := blk_cell HF.out 3
  have d4 : w3.cell? ⟨w.heap.size, 4, none⟩ = _ := blk_cell HF.out 4
  go_wp2_with fail
  clear d0 d1 d2 d3 d4
  refine (undof_any A c l on i0 i1 i2 i3 _ (Kd.C_below Hr.out HB.out) Hx.out).mono ?_
  rw [e3.out]
  rintro e w4 ⟨v3, rfl, hR3, hb⟩
  replace HF := Lib.hid (blk_below HF.out hb)
  replace hR1 := Lib.hid (Kd.R_below hR1.out hb)
  replace hR2 := Lib.hid (Kd.R_below hR2.out hb)
  replace hR3 := Lib.hid (Kd.R_lower hR3 HB.out.size)
  replace HB := Lib.hid (below_then HB.out HB.out.size hb)
  clear hb
  obtain ⟨A1, c1, rfl, hc1, _⟩ := Kd.R_reads hR1.out
  obtain ⟨A2, c2, rfl, hc2, _⟩ := Kd.R_reads hR2.out
  obtain ⟨A3, c3, rfl, hc3, _⟩ := Kd.R_reads hR3.out
  have d0 : w4.cell? ⟨w.heap.size, 0, none⟩ = _ := blk_cell HF.out 0
  have d1 : w4.cell? ⟨w.heap.size, 1, none⟩ = _ := blk_cell HF.out 1
  have d2 : w4.cell? ⟨w.heap.size, 2, none⟩ = _ := blk_cell HF.out 2
  have d3 : w4.cell? ⟨w.heap.size, 3, none⟩ = _ := blk_cell HF.out 3
  have d4 : w4.cell? ⟨w.heap.size, 4, none⟩ = _ := blk_cell HF.out 4
  go_wp2_with fail
  clear d0 d1 d2 d3 d4
  refine (rcheck_any on i0 i1 i2 i3 _).mono ?_
  rw [e4.out]
  rintro e w5 ⟨rfl, hb⟩
  replace hb := below_of_grown hb
  replace HF := Lib.hid (blk_below HF.out hb)
  replace hR1 := Lib.hid (Kd.R_below hR1.out hb)
  replace hR2 := Lib.hid (Kd.R_below hR2.out hb)
  replace hR3 := Lib.hid (Kd.R_below hR3.out hb)
  replace HB := Lib.hid (below_then HB.out HB.out.size hb)
  clear hb
  have d0 : w5.cell? ⟨w.heap.size, 0, none⟩ = _ := blk_cell HF.out 0
  have d1 : w5.cell? ⟨w.heap.size, 1, none⟩ = _ := blk_cell HF.out 1
  have d2 : w5.cell? ⟨w.heap.size, 2, none⟩ = _ := blk_cell HF.out 2
  have d3 : w5.cell? ⟨w.heap.size, 3, none⟩ = _ := blk_cell HF.out 3
  have d4 : w5.cell? ⟨w.heap.size, 4, none⟩ = _ := blk_cell HF.out 4
  go_wp2_with fail
  clear d0 d1 d2 d3 d4
  refine (tcheck_any on i0 i1 i2 i3 _ _ rfl).mono ?_
  rw [if_neg hf.out]
  rintro e w6 ⟨rfl, hb⟩
  replace hb := below_of_grown hb
  replace HF := Lib.hid (blk_below HF.out hb)
  replace hR1 := Lib.hid (Kd.R_below hR1.out hb)
  replace hR2 := Lib.hid (Kd.R_below hR2.out hb)
  replace hR3 := Lib.hid (Kd.R_below hR3.out hb)
  replace HB := Lib.hid (below_then HB.out HB.out.size hb)
  clear hb
  have d0 : w6.cell? ⟨w.heap.size, 0, none⟩ = _ := blk_cell HF.out 0
  have d1 : w6.cell? ⟨w.heap.size, 1, none⟩ = _ := blk_cell HF.out 1
  have d2 : w6.cell? ⟨w.heap.size, 2, none⟩ = _ := blk_cell HF.out 2
  have d3 : w6.cell? ⟨w.heap.size, 3, none⟩ = _ := blk_cell HF.out 3
  have d4 : w6.cell? ⟨w.heap.size, 4, none⟩ = _ := blk_cell HF.out 4
  have hn2 : ([] : List Int).length = 0 := rfl
  go_wp2_with fail
  go_loopg [12, 13] 0 (fun gk s12 s13 wr => s12 = .int .i64 0 ∧ wr = w6)
  case atStart => exact ⟨rfl, rfl⟩
  case round =>
    obtain ⟨rfl, rfl⟩ := hrel
    go_wp2
    go_ret
    exact ⟨rfl, HB.out⟩
set_option maxRecDepth 100000 in
set_option maxHeartbeats 4000000 in
theorem l7_bad_long (A : Option Addr) (c : Nat) (l : List Int) (on i0 i1 i2 i3 : Int) (hl : 120 < l.length) (hl3 : l.length ≤ 300) (hf : ¬ Fok on i0 i1 i2 i3) (w : World) (hr : Kd.C (Kd.int .i32) w A l.length l) (hc : l.length ≤ c) (hx : ∀ x ∈ l, I32 x) :
    Calls Try.prog 7 #[.slice A l.length c, fval on i0 i1 i2 i3] w (tr7 l w) := by
  have Hr := Lib.hid hr
  have Hx := Lib.hid hx
  have Hc := Lib.hid hc
  clear hr hx hc
  have HB : Hid (Below w.heap.size w (w.alloc (.cells (row5 on i0 i1 i2 i3) 54))) := (Below.refl _ _).alloc (Nat.le_refl _) _
  have HF : Hid ((w.alloc (.cells (row5 on i0 i1 i2 i3) 54)).heap[w.heap.size]? = some (.cells (row5 on i0 i1 i2 i3) 54 (0, 0))) := heap_alloc_new w _
  have h300 : ¬ (300 : Int) < (l.length : Int) := by omega
  have h120 : (120 : Int) < (l.length : Int) := by omega
  have e1 : Hid (partsv on i0 i1 i2 i3 = ([], 1)) := by show _ = _; unfold partsv; rw [if_neg hf]
  have e2 : Hid (thrv runL l on i0 i1 i2 i3 = ([], 2)) := by show _ = _; unfold thrv; rw [if_pos (by omega)]
  have e3 : Hid (thrv undoL l on i0 i1 i2 i3 = ([], 2)) := by show _ = _; unfold thrv; rw [if_pos (by omega)]
  have e4 : Hid (decide (Fok on i0 i1 i2 i3) = false) := decide_eq_false hf
  have hf := Lib.hid hf
  go_enter Try.func7, Try.ntmps7
  go_wp2_with fail
  refine (alive17_any _).mono ?_
  rintro e w1 ⟨rfl, hb⟩
  replace HF := Lib.hid (blk_below HF.out hb)
  replace HB := Lib.hid (below_then HB.out (by simp) hb)
  clear hb
  have d0 : w1.cell? ⟨w.heap.size, 0, none⟩ = _ := blk_cell HF.out 0
  have d1 : w1.cell? ⟨w.heap.size, 1, none⟩ = _ := blk_cell HF.out 1
  have d2 : w1.cell? ⟨w.heap.size, 2, none⟩ = _ := blk_cell HF.out 2
  have d3 : w1.cell? ⟨w.heap.size, 3, none⟩ = _ := blk_cell HF.out 3
  have d4 : w1.cell? ⟨w.heap.size, 4, none⟩ = _ := blk_cell HF.out 4
  go_wp2_with fail
  clear d0 d1 d2 d3 d4
  refine (parts_any on i0 i1 i2 i3 _).mono ?_
  rw [e1.out]
  rintro e w2 ⟨v1, rfl, hR1, hb⟩
  replace HF := Lib.hid (blk_below HF.out hb)
  replace hR1 := Lib.hid (Kd.R_lower hR1 HB.out.size)
  replace HB := Lib.hid (below_then HB.out HB.out.size hb)
  clear hb
  have d0 : w2.cell? ⟨w.heap.size, 0, none⟩ = _ := blk_cell HF.out 0
  have d1 : w2.cell? ⟨w.heap.size, 1, none⟩ = _ := blk_cell HF.out 1
  have d2 : w2.cell? ⟨w.heap.size, 2, none⟩ = _ := blk_cell HF.out 2
  have d3 : w2.cell? ⟨w.heap.size, 3, none⟩ = _ := blk_cell HF.out 3
  have d4 : w2.cell? ⟨w.heap.size, 4, none⟩ = _ := blk_cell HF.out 4
  go_wp2_with fail
  clear d0 d1 d2 d3 d4
  refine (runf_any A c l on i0 i1 i2 i3 _ (Kd.C_below Hr.out HB.out) Hx.out).mono ?_
  rw [e2.out]
  rintro e w3 ⟨v2, rfl, hR2, hb⟩
  replace HF := Lib.hid (blk_below HF.out hb)
  replace hR1 := Lib.hid (Kd.R_below hR1.out hb)
  replace hR2 := Lib.hid (Kd.R_lower hR2 HB.out.size)
  replace HB := Lib.hid (below_then HB.out HB.out.size hb)
  clear hb
  have d0 : w3.cell? ⟨w.heap.size, 0, none⟩ = _ := blk_cell HF.out 0
  have d1 : w3.cell? ⟨w.heap.size, 1, none⟩ = _ := blk_cell HF.out 1
  have d2 : w3.cell? ⟨w.heap.size, 2, none⟩ = _ := blk_cell HF.out 2
  have d3 : w3.cell? ⟨w.heap.size, 3, none⟩ = _ := blk_cell HF.out 3
  have d4 : w3.cell? ⟨w.heap.size, 4, none⟩ = _ := blk_cell HF.out 4
  go_wp2_with fail
  clear d0 d1 d2 d3 d4
  refine (undof_any A c l on i0 i1 i2 i3 _ (Kd.C_below Hr.out HB.out) Hx.out).mono ?_
  rw [e3.out]
  rintro e w4 ⟨v3, rfl, hR3, hb⟩
  replace HF := Lib.hid (blk_below HF.out hb)
  replace hR1 := Lib.hid (Kd.R_below hR1.out hb)
  replace hR2 := Lib.hid (Kd.R_below hR2.out hb)
  replace hR3 := Lib.hid (Kd.R_lower hR3 HB.out.size)
  replace HB := Lib.hid (below_then HB.out HB.out.size hb)
  clear hb
  obtain ⟨A1, c1, rfl, hc1, _⟩ := Kd.R_reads hR1.out
  obtain ⟨A2, c2, rfl, hc2, _⟩ := Kd.R_reads hR2.out
  obtain ⟨A3, c3, rfl, hc3, _⟩ := Kd.R_reads hR3.out
  have d0 : w4.cell? ⟨w.heap.size, 0, none⟩ = _ := blk_cell HF.out 0
  have d1 : w4.cell? ⟨w.heap.size, 1, none⟩ = _ := blk_cell HF.out 1
  have d2 : w4.cell? ⟨w.heap.size, 2, none⟩ = _ := blk_cell HF.out 2
  have d3 : w4.cell? ⟨w.heap.size, 3, none⟩ = _ := blk_cell HF.out 3
  have d4 : w4.cell? ⟨w.heap.size, 4, none⟩ = _ := blk_cell HF.out 4
  go_wp2_with fail
  clear d0 d1 d2 d3 d4
  refine (rcheck_any on i0 i1 i2 i3 _).mono ?_
  rw [e4.out]
  rintro e w5 ⟨rfl, hb⟩
  replace hb := below_of_grown hb
  replace HF := Lib.hid (blk_below HF.out hb)
  replace hR1 := Lib.hid (Kd.R_below hR1.out hb)
  replace hR2 := Lib.hid (Kd.R_below hR2.out hb)
  replace hR3 := Lib.hid (Kd.R_below hR3.out hb)
  replace HB := Lib.hid (below_then HB.out HB.out.size hb)
  clear hb
  have d0 : w5.cell? ⟨w.heap.size, 0, none⟩ = _ := blk_cell HF.out 0
  have d1 : w5.cell? ⟨w.heap.size, 1, none⟩ = _ := blk_cell HF.out 1
  have d2 : w5.cell? ⟨w.heap.size, 2, none⟩ = _ := blk_cell HF.out 2
  have d3 : w5.cell? ⟨w.heap.size, 3, none⟩ = _ := blk_cell HF.out 3
  have d4 : w5.cell? ⟨w.heap.size, 4, none⟩ = _ := blk_cell HF.out 4
  go_wp2_with fail
  clear d0 d1 d2 d3 d4
  refine (tcheck_any on i0 i1 i2 i3 _ _ rfl).mono ?_
  rw [if_neg hf.out]
  rintro e w6 ⟨rfl, hb⟩
  replace hb := below_of_grown hb
  replace HF := Lib.hid (blk_below HF.out hb)
  replace hR1 := Lib.hid (Kd.R_below hR1.out hb)
  replace hR2 := Lib.hid (Kd.R_below hR2.out hb)
  replace hR3 := Lib.hid (Kd.R_below hR3.out hb)
  replace HB := Lib.hid (below_then HB.out HB.out.size hb)
  clear hb
  have d0 : w6.cell? ⟨w.heap.size, 0, none⟩ = _ := blk_cell HF.out 0
  have d1 : w6.cell? ⟨w.heap.size, 1, none⟩ = _ := blk_cell HF.out 1
  have d2 : w6.cell? ⟨w.heap.size, 2, none⟩ = _ := blk_cell HF.out 2
  have d3 : w6.cell? ⟨w.heap.size, 3, none⟩ = _ := blk_cell HF.out 3
  have d4 : w6.cell? ⟨w.heap.size, 4, none⟩ = _ := blk_cell HF.out 4
  have hn2 : ([] : List Int).length = 0 := rfl
  go_wp2_with fail
  go_loopg [12, 13] 0 (fun gk s12 s13 wr => s12 = .int .i64 0 ∧ wr = w6)
  case atStart => exact ⟨rfl, rfl⟩
  case round =>
    obtain ⟨rfl, rfl⟩ := hrel
    go_wp2
    go_ret
    exact ⟨rfl, HB.out⟩
set_option maxRecDepth 100000 in
set_option maxHeartbeats 4000000 in
theorem l7_off_long (A : Option Addr) (c : Nat) (l : List Int) (i0 i1 i2 i3 : Int) (hl : 120 < l.length) (hl3 : l.length ≤ 300) (hf : Fok 0 i0 i1 i2 i3) (w : World) (hr : Kd.C (Kd.int .i32) w A l.length l) (hc : l.length ≤ c) (hx : ∀ x ∈ l, I32 x) :
    Calls Try.prog 7 #[.slice A l.length c, fval 0 i0 i1 i2 i3] w (tr7 l w) := by
  have Hr := Lib.hid hr
  have Hx := Lib.hid hx
  have Hc := Lib.hid hc
  clear hr hx hc
  have HB : Hid (Below w.heap.size w (w.alloc (.cells (row5 0 i0 i1 i2 i3) 54))) := (Below.refl _ _).alloc (Nat.le_refl _) _
  have HF : Hid ((w.alloc (.cells (row5 0 i0 i1 i2 i3) 54)).heap[w.heap.size]? = some (.cells (row5 0 i0 i1 i2 i3) 54 (0, 0))) := heap_alloc_new w _
  have h300 : ¬ (300 : Int) < (l.length : Int) := by omega
  have h120 : (120 : Int) < (l.length : Int) := by omega
  have e1 : Hid (partsv 0 i0 i1 i2 i3 = ([0, 0, 0, 0], 0)) := by show _ = _; unfold partsv; rw [if_pos hf, if_pos rfl]
  have e2 : Hid (thrv runL l 0 i0 i1 i2 i3 = ([], 2)) := by show _ = _; unfold thrv; rw [if_pos (by omega)]
  have e3 : Hid (thrv undoL l 0 i0 i1 i2 i3 = ([], 2)) := by show _ = _; unfold thrv; rw [if_pos (by omega)]
  have e4 : Hid (decide (Fok 0 i0 i1 i2 i3) = true) := decide_eq_true hf
  have hf := Lib.hid hf
  go_enter Try.func7, Try.ntmps7
  go_wp2_with fail
  refine (alive17_any _).mono ?_
  rintro e w1 ⟨rfl, hb⟩
  replace HF := Lib.hid (blk_below HF.out hb)
  replace HB := Lib.hid (below_then HB.out (by simp) hb)
  clear hb
  have d0 : w1.cell? ⟨w.heap.size, 0, none⟩ = _ := blk_cell HF.out 0
  have d1 : w1.cell? ⟨w.heap.size, 1, none⟩ = _ := blk_cell HF.out 1
  have d2 : w1.cell? ⟨w.heap.size, 2, none⟩ = _ := blk_cell HF.out 2
  have d3 : w1.cell? ⟨w.heap.size, 3, none⟩ = _ := blk_cell HF.out 3
  have d4 : w1.cell? ⟨w.heap.size, 4, none⟩ = _ := blk_cell HF.out 4
  go_wp2_with fail
  clear d0 d1 d2 d3 d4
  refine (parts_any 0 i0 i1 i2 i3 _).mono ?_
  rw [e1.out]
  rintro e w2 ⟨v1, rfl, hR1, hb⟩
  replace HF := Lib.hid (blk_below HF.out hb)
  replace hR1 := Lib.hid (Kd.R_lower hR1 HB.out.size)
  replace HB := Lib.hid (below_then HB.out HB.out.size hb)
  clear hb
  have d0 : w2.cell? ⟨w.heap.size, 0, none⟩ = _ := blk_cell HF.out 0
  have d1 : w2.cell? ⟨w.heap.size, 1, none⟩ = _ := blk_cell HF.out 1
  have d2 : w2.cell? ⟨w.heap.size, 2, none⟩ = _ := blk_cell HF.out 2
  have d3 : w2.cell? ⟨w.heap.size, 3, none⟩ = _ := blk_cell HF.out 3
  have d4 : w2.cell? ⟨w.heap.size, 4, none⟩ = _ := blk_cell HF.out 4
  go_wp2_with fail
  clear d0 d1 d2 d3 d4
  refine (runf_any A c l 0 i0 i1 i2 i3 _ (Kd.C_below Hr.out HB.out) Hx.out).mono ?_
  rw [e2.out]
  rintro e w3 ⟨v2, rfl, hR2, hb⟩
  replace HF := Lib.hid (blk_below HF.out hb)
  replace hR1 := Lib.hid (Kd.R_below hR1.out hb)
  replace hR2 := Lib.hid (Kd.R_lower hR2 HB.out.size)
  replace HB := Lib.hid (below_then HB.out HB.out.size hb)
  clear hb
  have d0 : w3.cell? ⟨w.heap.size, 0, none⟩ = _ := blk_cell HF.out 0
  have d1 : w3.cell? ⟨w.heap.size, 1, none⟩ = _ := blk_cell HF.out 1
  have d2 : w3.cell? ⟨w.heap.size, 2, none⟩ = _ := blk_cell HF.out 2
  have d3 : w3.cell? ⟨w.heap.size, 3, none⟩ = _ := blk_cell HF.out 3
  have d4 : w3.cell? ⟨w.heap.size, 4, none⟩ = _ := blk_cell HF.out 4
  go_wp2_with fail
  clear d0 d1 d2 d3 d4
  refine (undof_any A c l 0 i0 i1 i2 i3 _ (Kd.C_below Hr.out HB.out) Hx.out).mono ?_
  rw [e3.out]
  rintro e w4 ⟨v3, rfl, hR3, hb⟩
  replace HF := Lib.hid (blk_below HF.out hb)
  replace hR1 := Lib.hid (Kd.R_below hR1.out hb)
  replace hR2 := Lib.hid (Kd.R_below hR2.out hb)
  replace hR3 := Lib.hid (Kd.R_lower hR3 HB.out.size)
  replace HB := Lib.hid (below_then HB.out HB.out.size hb)
  clear hb
  obtain ⟨A1, c1, rfl, hc1, _⟩ := Kd.R_reads hR1.out
  obtain ⟨A2, c2, rfl, hc2, _⟩ := Kd.R_reads hR2.out
  obtain ⟨A3, c3, rfl, hc3, _⟩ := Kd.R_reads hR3.out
  have d0 : w4.cell? ⟨w.heap.size, 0, none⟩ = _ := blk_cell HF.out 0
  have d1 : w4.cell? ⟨w.heap.size, 1, none⟩ = _ := blk_cell HF.out 1
  have d2 : w4.cell? ⟨w.heap.size, 2, none⟩ = _ := blk_cell HF.out 2
  have d3 : w4.cell? ⟨w.heap.size, 3, none⟩ = _ := blk_cell HF.out 3
  have d4 : w4.cell? ⟨w.heap.size, 4, none⟩ = _ := blk_cell HF.out 4
  go_wp2_with fail
  clear d0 d1 d2 d3 d4
  refine (rcheck_any 0 i0 i1 i2 i3 _).mono ?_
  rw [e4.out]
  rintro e w5 ⟨rfl, hb⟩
  replace hb := below_of_grown hb
  replace HF := Lib.hid (blk_below HF.out hb)
  replace hR1 := Lib.hid (Kd.R_below hR1.out hb)
  replace hR2 := Lib.hid (Kd.R_below hR2.out hb)
  replace hR3 := Lib.hid (Kd.R_below hR3.out hb)
  replace HB := Lib.hid (below_then HB.out HB.out.size hb)
  clear hb
  have d0 : w5.cell? ⟨w.heap.size, 0, none⟩ = _ := blk_cell HF.out 0
  have d1 : w5.cell? ⟨w.heap.size, 1, none⟩ = _ := blk_cell HF.out 1
  have d2 : w5.cell? ⟨w.heap.size, 2, none⟩ = _ := blk_cell HF.out 2
  have d3 : w5.cell? ⟨w.heap.size, 3, none⟩ = _ := blk_cell HF.out 3
  have d4 : w5.cell? ⟨w.heap.size, 4, none⟩ = _ := blk_cell HF.out 4
  go_wp2_with fail
  clear d0 d1 d2 d3 d4
  refine (tcheck_any 0 i0 i1 i2 i3 _ _ rfl).mono ?_
  rw [if_pos hf.out]
  rintro e w6 ⟨rfl, hb⟩
  replace hb := below_of_grown hb
  replace HF := Lib.hid (blk_below HF.out hb)
  replace hR1 := Lib.hid (Kd.R_below hR1.out hb)
  replace hR2 := Lib.hid (Kd.R_below hR2.out hb)
  replace hR3 := Lib.hid (Kd.R_below hR3.out hb)
  replace HB := Lib.hid (below_then HB.out HB.out.size hb)
  clear hb
  have d0 : w6.cell? ⟨w.heap.size, 0, none⟩ = _ := blk_cell HF.out 0
  have d1 : w6.cell? ⟨w.heap.size, 1, none⟩ = _ := blk_cell HF.out 1
  have d2 : w6.cell? ⟨w.heap.size, 2, none⟩ = _ := blk_cell HF.out 2
  have d3 : w6.cell? ⟨w.heap.size, 3, none⟩ = _ := blk_cell HF.out 3
  have d4 : w6.cell? ⟨w.heap.size, 4, none⟩ = _ := blk_cell HF.out 4
  clear d0 d1 d2 d3 d4
  obtain ⟨g1, c1, e1, _, _, hR1⟩ := R_fixed hR1.out (by simp)
  injection e1 with e1 _ e2
  subst e1 e2
  have hL : Hid (L7 w w6 0 i0 i1 i2 i3 g1 c1 [0, 0, 0, 0] _ _ _ _) := ⟨HF.out, hR1, hR2.out, hR3.out, HB.out⟩
  have hRC := Lib.hid (show True from trivial)
  clear hR1 hR2 hR3 HF HB
  have d0 : w6.cell? ⟨w.heap.size, 0, none⟩ = _ := blk_cell hL.out.box 0
  have d1 : w6.cell? ⟨w.heap.size, 1, none⟩ = _ := blk_cell hL.out.box 1
  have d2 : w6.cell? ⟨w.heap.size, 2, none⟩ = _ := blk_cell hL.out.box 2
  have d3 : w6.cell? ⟨w.heap.size, 3, none⟩ = _ := blk_cell hL.out.box 3
  have d4 : w6.cell? ⟨w.heap.size, 4, none⟩ = _ := blk_cell hL.out.box 4
  go_wp2_with fail
  clear d0 d1 d2 d3 d4
  go_loopg [12, 13] 4 (fun gk s12 s13 wr => ∃ k : Nat, k ≤ 4 ∧ gk = 4 - k ∧ s12 = .int .i64 k ∧ L7 w wr 0 i0 i1 i2 i3 g1 c1 [0, 0, 0, 0] (.slice A2 ([] : List Int).length c2) ([] : List Int) (.slice A3 ([] : List Int).length c3) ([] : List Int))
  case atStart => exact ⟨0, by omega, rfl, rfl, hL.out⟩
  case round =>
    clear hL
    obtain ⟨k, hk, rfl, rfl, hM⟩ := hrel
    have hM' := Lib.hid hM
    have d0 : wr.cell? ⟨w.heap.size, 0, none⟩ = _ := blk_cell hM.box 0
    have d1 : wr.cell? ⟨w.heap.size, 1, none⟩ = _ := blk_cell hM.box 1
    have d2 : wr.cell? ⟨w.heap.size, 2, none⟩ = _ := blk_cell hM.box 2
    have d3 : wr.cell? ⟨w.heap.size, 3, none⟩ = _ := blk_cell hM.box 3
    have d4 : wr.cell? ⟨w.heap.size, 4, none⟩ = _ := blk_cell hM.box 4
    have p0 : wr.cell? ⟨g1, 0, none⟩ = some (.int .i16 0) := (Kd.R_celln (0 : Int) hM.r1 0 (by decide) (by decide)).1
    have p1 : wr.cell? ⟨g1, 1, none⟩ = some (.int .i16 0) := (Kd.R_celln (0 : Int) hM.r1 1 (by decide) (by decide)).1
    have p2 : wr.cell? ⟨g1, 2, none⟩ = some (.int .i16 0) := (Kd.R_celln (0 : Int) hM.r1 2 (by decide) (by decide)).1
    have p3 : wr.cell? ⟨g1, 3, none⟩ = some (.int .i16 0) := (Kd.R_celln (0 : Int) hM.r1 3 (by decide) (by decide)).1
    clear hM
    obtain rfl | rfl | rfl | rfl | rfl : k = 0 ∨ k = 1 ∨ k = 2 ∨ k = 3 ∨ k = 4 := by omega
    · go_wp2
      go_roundg 3
      case measure => omega
      case rel => exact ⟨1, by omega, rfl, rfl, hM'.out⟩
    · go_wp2
      go_roundg 2
      case measure => omega
      case rel => exact ⟨2, by omega, rfl, rfl, hM'.out⟩
    · go_wp2
      go_roundg 1
      case measure => omega
      case rel => exact ⟨3, by omega, rfl, rfl, hM'.out⟩
    · go_wp2
      go_roundg 0
      case measure => omega
      case rel => exact ⟨4, by omega, rfl, rfl, hM'.out⟩
    · have hn2 : ([] : List Int).length = 0 := rfl
      go_wp2
      go_ret
      exact ⟨rfl, hM'.out.below⟩
set_option maxRecDepth 100000 in
set_option maxHeartbeats 4000000 in
theorem l7_on_long (A : Option Addr) (c : Nat) (l : List Int) (i0 i1 i2 i3 : Int) (hl : 120 < l.length) (hl3 : l.length ≤ 300) (hf : Fok 1 i0 i1 i2 i3) (w : World) (hr : Kd.C (Kd.int .i32) w A l.length l) (hc : l.length ≤ c) (hx : ∀ x ∈ l, I32 x) :
    Calls Try.prog 7 #[.slice A l.length c, fval 1 i0 i1 i2 i3] w (tr7 l w) := by
  have Hr := Lib.hid hr
  have Hx := Lib.hid hx
  have Hc := Lib.hid hc
  clear hr hx hc
  have HB : Hid (Below w.heap.size w (w.alloc (.cells (row5 1 i0 i1 i2 i3) 54))) := (Below.refl _ _).alloc (Nat.le_refl _) _
  have HF : Hid ((w.alloc (.cells (row5 1 i0 i1 i2 i3) 54)).heap[w.heap.size]? = some (.cells (row5 1 i0 i1 i2 i3) 54 (0, 0))) := heap_alloc_new w _
  have h300 : ¬ (300 : Int) < (l.length : Int) := by omega
  have h120 : (120 : Int) < (l.length : Int) := by omega
  have e1 : Hid (partsv 1 i0 i1 i2 i3 = ([pv i0, pv i1, pv i2, pv i3], 0)) := by show _ = _; unfold partsv; rw [if_pos hf, if_neg (by decide)]
  have e2 : Hid (thrv runL l 1 i0 i1 i2 i3 = ([], 2)) := by show _ = _; unfold thrv; rw [if_pos (by omega)]
  have e3 : Hid (thrv undoL l 1 i0 i1 i2 i3 = ([], 2)) := by show _ = _; unfold thrv; rw [if_pos (by omega)]
  have e4 : Hid (decide (Fok 1 i0 i1 i2 i3) = true) := decide_eq_true hf
  have bl0 : -32768 ≤ pv i0 := (pv_bd i0).1
  have bu0 : pv i0 ≤ 32767 := (pv_bd i0).2
  have bl1 : -32768 ≤ pv i1 := (pv_bd i1).1
  have bu1 : pv i1 ≤ 32767 := (pv_bd i1).2
  have bl2 : -32768 ≤ pv i2 := (pv_bd i2).1
  have bu2 : pv i2 ≤ 32767 := (pv_bd i2).2
  have bl3 : -32768 ≤ pv i3 := (pv_bd i3).1
  have bu3 : pv i3 ≤ 32767 := (pv_bd i3).2
  have hi0 : 0 ≤ i0 ∧ i0 ≤ 16 := by have := hf.2.1; unfold fin at this; omega
  have hi1 : 0 ≤ i1 ∧ i1 ≤ 16 := by have := hf.2.2.1; unfold fin at this; omega
  have hi2 : 0 ≤ i2 ∧ i2 ≤ 16 := by have := hf.2.2.2.1; unfold fin at this; omega
  have hi3 : 0 ≤ i3 ∧ i3 ≤ 16 := by have := hf.2.2.2.2; unfold fin at this; omega
  have hf := Lib.hid hf
  go_enter Try.func7, Try.ntmps7
  go_wp2_with fail
  refine (alive17_any _).mono ?_
  rintro e w1 ⟨rfl, hb⟩
  replace HF := Lib.hid (blk_below HF.out hb)
  replace HB := Lib.hid (below_then HB.out (by simp) hb)
  clear hb
  have d0 : w1.cell? ⟨w.heap.size, 0, none⟩ = _ := blk_cell HF.out 0
  have d1 : w1.cell? ⟨w.heap.size, 1, none⟩ = _ := blk_cell HF.out 1
  have d2 : w1.cell? ⟨w.heap.size, 2, none⟩ = _ := blk_cell HF.out 2
  have d3 : w1.cell? ⟨w.heap.size, 3, none⟩ = _ := blk_cell HF.out 3
  have d4 : w1.cell? ⟨w.heap.size, 4, none⟩ = _ := blk_cell HF.out 4
  go_wp2_with fail
  clear d0 d1 d2 d3 d4
  refine (parts_any 1 i0 i1 i2 i3 _).mono ?_
  rw [e1.out]
  rintro e w2 ⟨v1, rfl, hR1, hb⟩
  replace HF := Lib.hid (blk_below HF.out hb)
  replace hR1 := Lib.hid (Kd.R_lower hR1 HB.out.size)
  replace HB := Lib.hid (below_then HB.out HB.out.size hb)
  clear hb
  have d0 : w2.cell? ⟨w.heap.size, 0, none⟩ = _ := blk_cell HF.out 0
  have d1 : w2.cell? ⟨w.heap.size, 1, none⟩ = _ := blk_cell HF.out 1
  have d2 : w2.cell? ⟨w.heap.size, 2, none⟩ = _ := blk_cell HF.out 2
  have d3 : w2.cell? ⟨w.heap.size, 3, none⟩ = _ := blk_cell HF.out 3
  have d4 : w2.cell? ⟨w.heap.size, 4, none⟩ = _ := blk_cell HF.out 4
  go_wp2_with fail
  clear d0 d1 d2 d3 d4
  refine (runf_any A c l 1 i0 i1 i2 i3 _ (Kd.C_below Hr.out HB.out) Hx.out).mono ?_
  rw [e2.out]
  rintro e w3 ⟨v2, rfl, hR2, hb⟩
  replace HF := Lib.hid (blk_below HF.out hb)
  replace hR1 := Lib.hid (Kd.R_below hR1.out hb)
  replace hR2 := Lib.hid (Kd.R_lower hR2 HB.out.size)
  replace HB := Lib.hid (below_then HB.out HB.out.size hb)
  clear hb
  have d0 : w3.cell? ⟨w.heap.size, 0, none⟩ = _ := blk_cell HF.out 0
  have d1 : w3.cell? ⟨w.heap.size, 1, none⟩ = _ := blk_cell HF.out 1
  have d2 : w3.cell? ⟨w.heap.size, 2, none⟩ = _ := blk_cell HF.out 2
  have d3 : w3.cell? ⟨w.heap.size, 3, none⟩ = _ := blk_cell HF.out 3
  have d4 : w3.cell? ⟨w.heap.size, 4, none⟩ = _ := blk_cell HF.out 4
  go_wp2_with fail
  clear d0 d1 d2 d3 d4
  refine (undof_any A c l 1 i0 i1 i2 i3 _ (Kd.C_below Hr.out HB.out) Hx.out).mono ?_
  rw [e3.out]
  rintro e w4 ⟨v3, rfl, hR3, hb⟩
  replace HF := Lib.hid (blk_below HF.out hb)
  replace hR1 := Lib.hid (Kd.R_below hR1.out hb)
  replace hR2 := Lib.hid (Kd.R_below hR2.out hb)
  replace hR3 := Lib.hid (Kd.R_lower hR3 HB.out.size)
  replace HB := Lib.hid (below_then HB.out HB.out.size hb)
  clear hb
  obtain ⟨A1, c1, rfl, hc1, _⟩ := Kd.R_reads hR1.out
  obtain ⟨A2, c2, rfl, hc2, _⟩ := Kd.R_reads hR2.out
  obtain ⟨A3, c3, rfl, hc3, _⟩ := Kd.R_reads hR3.out
  have d0 : w4.cell? ⟨w.heap.size, 0, none⟩ = _ := blk_cell HF.out 0
  have d1 : w4.cell? ⟨w.heap.size, 1, none⟩ = _ := blk_cell HF.out 1
  have d2 : w4.cell? ⟨w.heap.size, 2, none⟩ = _ := blk_cell HF.out 2
  have d3 : w4.cell? ⟨w.heap.size, 3, none⟩ = _ := blk_cell HF.out 3
  have d4 : w4.cell? ⟨w.heap.size, 4, none⟩ = _ := blk_cell HF.out 4
  go_wp2_with fail
  clear d0 d1 d2 d3 d4
  refine (rcheck_any 1 i0 i1 i2 i3 _).mono ?_
  rw [e4.out]
  rintro e w5 ⟨rfl, hb⟩
  replace hb := below_of_grown hb
  replace HF := Lib.hid (blk_below HF.out hb)
  replace hR1 := Lib.hid (Kd.R_below hR1.out hb)
  replace hR2 := Lib.hid (Kd.R_below hR2.out hb)
  replace hR3 := Lib.hid (Kd.R_below hR3.out hb)
  replace HB := Lib.hid (below_then HB.out HB.out.size hb)
  clear hb
  have d0 : w5.cell? ⟨w.heap.size, 0, none⟩ = _ := blk_cell HF.out 0
  have d1 : w5.cell? ⟨w.heap.size, 1, none⟩ = _ := blk_cell HF.out 1
  have d2 : w5.cell? ⟨w.heap.size, 2, none⟩ = _ := blk_cell HF.out 2
  have d3 : w5.cell? ⟨w.heap.size, 3, none⟩ = _ := blk_cell HF.out 3
  have d4 : w5.cell? ⟨w.heap.size, 4, none⟩ = _ := blk_cell HF.out 4
  go_wp2_with fail
  clear d0 d1 d2 d3 d4
  refine (tcheck_any 1 i0 i1 i2 i3 _ _ rfl).mono ?_
  rw [if_pos hf.out]
  rintro e w6 ⟨rfl, hb⟩
  replace hb := below_of_grown hb
  replace HF := Lib.hid (blk_below HF.out hb)
  replace hR1 := Lib.hid (Kd.R_below hR1.out hb)
  replace hR2 := Lib.hid (Kd.R_below hR2.out hb)
  replace hR3 := Lib.hid (Kd.R_below hR3.out hb)
  replace HB := Lib.hid (below_then HB.out HB.out.size hb)
  clear hb
  have d0 : w6.cell? ⟨w.heap.size, 0, none⟩ = _ := blk_cell HF.out 0
  have d1 : w6.cell? ⟨w.heap.size, 1, none⟩ = _ := blk_cell HF.out 1
  have d2 : w6.cell? ⟨w.heap.size, 2, none⟩ = _ := blk_cell HF.out 2
  have d3 : w6.cell? ⟨w.heap.size, 3, none⟩ = _ := blk_cell HF.out 3
  have d4 : w6.cell? ⟨w.heap.size, 4, none⟩ = _ := blk_cell HF.out 4
  clear d0 d1 d2 d3 d4
  obtain ⟨g1, c1, e1, _, _, hR1⟩ := R_fixed hR1.out (by simp)
  injection e1 with e1 _ e2
  subst e1 e2
  have hL : Hid (L7 w w6 1 i0 i1 i2 i3 g1 c1 [(pv i0), (pv i1), (pv i2), (pv i3)] _ _ _ _) := ⟨HF.out, hR1, hR2.out, hR3.out, HB.out⟩
  have hRC := Lib.hid (show True from trivial)
  clear hR1 hR2 hR3 HF HB
  have d0 : w6.cell? ⟨w.heap.size, 0, none⟩ = _ := blk_cell hL.out.box 0
  have d1 : w6.cell? ⟨w.heap.size, 1, none⟩ = _ := blk_cell hL.out.box 1
  have d2 : w6.cell? ⟨w.heap.size, 2, none⟩ = _ := blk_cell hL.out.box 2
  have d3 : w6.cell? ⟨w.heap.size, 3, none⟩ = _ := blk_cell hL.out.box 3
  have d4 : w6.cell? ⟨w.heap.size, 4, none⟩ = _ := blk_cell hL.out.box 4
  go_wp2_with fail
  clear d0 d1 d2 d3 d4
  go_loopg [12, 13] 4 (fun gk s12 s13 wr => ∃ k : Nat, k ≤ 4 ∧ gk = 4 - k ∧ s12 = .int .i64 k ∧ L7 w wr 1 i0 i1 i2 i3 g1 c1 [(pv i0), (pv i1), (pv i2), (pv i3)] (.slice A2 ([] : List Int).length c2) ([] : List Int) (.slice A3 ([] : List Int).length c3) ([] : List Int))
  case atStart => exact ⟨0, by omega, rfl, rfl, hL.out⟩
  case round =>
    clear hL
    obtain ⟨k, hk, rfl, rfl, hM⟩ := hrel
    have hM' := Lib.hid hM
    have d0 : wr.cell? ⟨w.heap.size, 0, none⟩ = _ := blk_cell hM.box 0
    have d1 : wr.cell? ⟨w.heap.size, 1, none⟩ = _ := blk_cell hM.box 1
    have d2 : wr.cell? ⟨w.heap.size, 2, none⟩ = _ := blk_cell hM.box 2
    have d3 : wr.cell? ⟨w.heap.size, 3, none⟩ = _ := blk_cell hM.box 3
    have d4 : wr.cell? ⟨w.heap.size, 4, none⟩ = _ := blk_cell hM.box 4
    have p0 : wr.cell? ⟨g1, 0, none⟩ = some (.int .i16 (pv i0)) := (Kd.R_celln (0 : Int) hM.r1 0 (by decide) (by decide)).1
    have p1 : wr.cell? ⟨g1, 1, none⟩ = some (.int .i16 (pv i1)) := (Kd.R_celln (0 : Int) hM.r1 1 (by decide) (by decide)).1
    have p2 : wr.cell? ⟨g1, 2, none⟩ = some (.int .i16 (pv i2)) := (Kd.R_celln (0 : Int) hM.r1 2 (by decide) (by decide)).1
    have p3 : wr.cell? ⟨g1, 3, none⟩ = some (.int .i16 (pv i3)) := (Kd.R_celln (0 : Int) hM.r1 3 (by decide) (by decide)).1
    clear hM
    obtain rfl | rfl | rfl | rfl | rfl : k = 0 ∨ k = 1 ∨ k = 2 ∨ k = 3 ∨ k = 4 := by omega
    · go_wp2_with (go_at_call 37; refine (rpart_any i0 _ hi0.1 hi0.2).mono ?_; rintro e w7 ⟨rfl, nm, rfl⟩)
      go_roundg 3
      case measure => omega
      case rel => exact ⟨1, by omega, rfl, rfl, hM'.out.drew nm⟩
    · go_wp2_with (go_at_call 37; refine (rpart_any i1 _ hi1.1 hi1.2).mono ?_; rintro e w7 ⟨rfl, nm, rfl⟩)
      go_roundg 2
      case measure => omega
      case rel => exact ⟨2, by omega, rfl, rfl, hM'.out.drew nm⟩
    · go_wp2_with (go_at_call 37; refine (rpart_any i2 _ hi2.1 hi2.2).mono ?_; rintro e w7 ⟨rfl, nm, rfl⟩)
      go_roundg 1
      case measure => omega
      case rel => exact ⟨3, by omega, rfl, rfl, hM'.out.drew nm⟩
    · go_wp2_with (go_at_call 37; refine (rpart_any i3 _ hi3.1 hi3.2).mono ?_; rintro e w7 ⟨rfl, nm, rfl⟩)
      go_roundg 0
      case measure => omega
      case rel => exact ⟨4, by omega, rfl, rfl, hM'.out.drew nm⟩
    · have hn2 : ([] : List Int).length = 0 := rfl
      go_wp2
      go_ret
      exact ⟨rfl, hM'.out.below⟩
set_option maxRecDepth 100000 in
set_option maxHeartbeats 4000000 in
theorem l7_off (A : Option Addr) (c : Nat) (l : List Int) (i0 i1 i2 i3 : Int) (hl : l.length ≤ 120) (hf : Fok 0 i0 i1 i2 i3) (w : World) (hr : Kd.C (Kd.int .i32) w A l.length l) (hc : l.length ≤ c) (hx : ∀ x ∈ l, I32 x) :
    Calls Try.prog 7 #[.slice A l.length c, fval 0 i0 i1 i2 i3] w (tr7 l w) := by
  have Hr := Lib.hid hr
  have Hx := Lib.hid hx
  have Hc := Lib.hid hc
  clear hr hx hc
  have HB : Hid (Below w.heap.size w (w.alloc (.cells (row5 0 i0 i1 i2 i3) 54))) := (Below.refl _ _).alloc (Nat.le_refl _) _
  have HF : Hid ((w.alloc (.cells (row5 0 i0 i1 i2 i3) 54)).heap[w.heap.size]? = some (.cells (row5 0 i0 i1 i2 i3) 54 (0, 0))) := heap_alloc_new w _
  have h300 : ¬ (300 : Int) < (l.length : Int) := by omega
  have h120 : ¬ (120 : Int) < (l.length : Int) := by omega
  have e1 : Hid (partsv 0 i0 i1 i2 i3 = ([0, 0, 0, 0], 0)) := by show _ = _; unfold partsv; rw [if_pos hf, if_pos rfl]
  have e2 : Hid (thrv runL l 0 i0 i1 i2 i3 = (l, 0)) := by show _ = _; unfold thrv; rw [if_neg (by omega), if_pos hf, if_pos rfl]
  have e3 : Hid (thrv undoL l 0 i0 i1 i2 i3 = (l, 0)) := by show _ = _; unfold thrv; rw [if_neg (by omega), if_pos hf, if_pos rfl]
  have e4 : Hid (decide (Fok 0 i0 i1 i2 i3) = true) := decide_eq_true hf
  have hf := Lib.hid hf
  go_enter Try.func7, Try.ntmps7
  go_wp2_with fail
  refine (alive17_any _).mono ?_
  rintro e w1 ⟨rfl, hb⟩
  replace HF := Lib.hid (blk_below HF.out hb)
  replace HB := Lib.hid (below_then HB.out (by simp) hb)
  clear hb
  have d0 : w1.cell? ⟨w.heap.size, 0, none⟩ = _ := blk_cell HF.out 0
  have d1 : w1.cell? ⟨w.heap.size, 1, none⟩ = _ := blk_cell HF.out 1
  have d2 : w1.cell? ⟨w.heap.size, 2, none⟩ = _ := blk_cell HF.out 2
  have d3 : w1.cell? ⟨w.heap.size, 3, none⟩ = _ := blk_cell HF.out 3
  have d4 : w1.cell? ⟨w.heap.size, 4, none⟩ = _ := blk_cell HF.out 4
  go_wp2_with fail
  clear d0 d1 d2 d3 d4
  refine (parts_any 0 i0 i1 i2 i3 _).mono ?_
  rw [e1.out]
  rintro e w2 ⟨v1, rfl, hR1, hb⟩
  replace HF := Lib.hid (blk_below HF.out hb)
  replace hR1 := Lib.hid (Kd.R_lower hR1 HB.out.size)
  replace HB := Lib.hid (below_then HB.out HB.out.size hb)
  clear hb
  have d0 : w2.cell? ⟨w.heap.size, 0, none⟩ = _ := blk_cell HF.out 0
  have d1 : w2.cell? ⟨w.heap.size, 1, none⟩ = _ := blk_cell HF.out 1
  have d2 : w2.cell? ⟨w.heap.size, 2, none⟩ = _ := blk_cell HF.out 2
  have d3 : w2.cell? ⟨w.heap.size, 3, none⟩ = _ := blk_cell HF.out 3
  have d4 : w2.cell? ⟨w.heap.size, 4, none⟩ = _ := blk_cell HF.out 4
  go_wp2_with fail
  clear d0 d1 d2 d3 d4
  refine (runf_any A c l 0 i0 i1 i2 i3 _ (Kd.C_below Hr.out HB.out) Hx.out).mono ?_
  rw [e2.out]
  rintro e w3 ⟨v2, rfl, hR2, hb⟩
  replace HF := Lib.hid (blk_below HF.out hb)
  replace hR1 := Lib.hid (Kd.R_below hR1.out hb)
  replace hR2 := Lib.hid (Kd.R_lower hR2 HB.out.size)
  replace HB := Lib.hid (below_then HB.out HB.out.size hb)
  clear hb
  have d0 : w3.cell? ⟨w.heap.size, 0, none⟩ = _ := blk_cell HF.out 0
  have d1 : w3.cell? ⟨w.heap.size, 1, none⟩ = _ := blk_cell HF.out 1
  have d2 : w3.cell? ⟨w.heap.size, 2, none⟩ = _ := blk_cell HF.out 2
  have d3 : w3.cell? ⟨w.heap.size, 3, none⟩ = _ := blk_cell HF.out 3
  have d4 : w3.cell? ⟨w.heap.size, 4, none⟩ = _ := blk_cell HF.out 4
  go_wp2_with fail
  clear d0 d1 d2 d3 d4
  refine (undof_any A c l 0 i0 i1 i2 i3 _ (Kd.C_below Hr.out HB.out) Hx.out).mono ?_
  rw [e3.out]
  rintro e w4 ⟨v3, rfl, hR3, hb⟩
  replace HF := Lib.hid (blk_below HF.out hb)
  replace hR1 := Lib.hid (Kd.R_below hR1.out hb)
  replace hR2 := Lib.hid (Kd.R_below hR2.out hb)
  replace hR3 := Lib.hid (Kd.R_lower hR3 HB.out.size)
  replace HB := Lib.hid (below_then HB.out HB.out.size hb)
  clear hb
  obtain ⟨A1, c1, rfl, hc1, _⟩ := Kd.R_reads hR1.out
  obtain ⟨A2, c2, rfl, hc2, _⟩ := Kd.R_reads hR2.out
  obtain ⟨A3, c3, rfl, hc3, _⟩ := Kd.R_reads hR3.out
  have d0 : w4.cell? ⟨w.heap.size, 0, none⟩ = _ := blk_cell HF.out 0
  have d1 : w4.cell? ⟨w.heap.size, 1, none⟩ = _ := blk_cell HF.out 1
  have d2 : w4.cell? ⟨w.heap.size, 2, none⟩ = _ := blk_cell HF.out 2
  have d3 : w4.cell? ⟨w.heap.size, 3, none⟩ = _ := blk_cell HF.out 3
  have d4 : w4.cell? ⟨w.heap.size, 4, none⟩ = _ := blk_cell HF.out 4
  go_wp2_with fail
  clear d0 d1 d2 d3 d4
  refine (rcheck_any 0 i0 i1 i2 i3 _).mono ?_
  rw [e4.out]
  rintro e w5 ⟨rfl, hb⟩
  replace hb := below_of_grown hb
  replace HF := Lib.hid (blk_below HF.out hb)
  replace hR1 := Lib.hid (Kd.R_below hR1.out hb)
  replace hR2 := Lib.hid (Kd.R_below hR2.out hb)
  replace hR3 := Lib.hid (Kd.R_below hR3.out hb)
  replace HB := Lib.hid (below_then HB.out HB.out.size hb)
  clear hb
  have d0 : w5.cell? ⟨w.heap.size, 0, none⟩ = _ := blk_cell HF.out 0
  have d1 : w5.cell? ⟨w.heap.size, 1, none⟩ = _ := blk_cell HF.out 1
  have d2 : w5.cell? ⟨w.heap.size, 2, none⟩ = _ := blk_cell HF.out 2
  have d3 : w5.cell? ⟨w.heap.size, 3, none⟩ = _ := blk_cell HF.out 3
  have d4 : w5.cell? ⟨w.heap.size, 4, none⟩ = _ := blk_cell HF.out 4
  go_wp2_with fail
  clear d0 d1 d2 d3 d4
  refine (tcheck_any 0 i0 i1 i2 i3 _ _ rfl).mono ?_
  rw [if_pos hf.out]
  rintro e w6 ⟨rfl, hb⟩
  replace hb := below_of_grown hb
  replace HF := Lib.hid (blk_below HF.out hb)
  replace hR1 := Lib.hid (Kd.R_below hR1.out hb)
  replace hR2 := Lib.hid (Kd.R_below hR2.out hb)
  replace hR3 := Lib.hid (Kd.R_below hR3.out hb)
  replace HB := Lib.hid (below_then HB.out HB.out.size hb)
  clear hb
  have d0 : w6.cell? ⟨w.heap.size, 0, none⟩ = _ := blk_cell HF.out 0
  have d1 : w6.cell? ⟨w.heap.size, 1, none⟩ = _ := blk_cell HF.out 1
  have d2 : w6.cell? ⟨w.heap.size, 2, none⟩ = _ := blk_cell HF.out 2
  have d3 : w6.cell? ⟨w.heap.size, 3, none⟩ = _ := blk_cell HF.out 3
  have d4 : w6.cell? ⟨w.heap.size, 4, none⟩ = _ := blk_cell HF.out 4
  clear d0 d1 d2 d3 d4
  obtain ⟨g1, c1, e1, _, _, hR1⟩ := R_fixed hR1.out (by simp)
  injection e1 with e1 _ e2
  subst e1 e2
  have hL : Hid (L7 w w6 0 i0 i1 i2 i3 g1 c1 [0, 0, 0, 0] _ _ _ _) := ⟨HF.out, hR1, hR2.out, hR3.out, HB.out⟩
  have hRC := Lib.hid (show True from trivial)
  clear hR1 hR2 hR3 HF HB
  have d0 : w6.cell? ⟨w.heap.size, 0, none⟩ = _ := blk_cell hL.out.box 0
  have d1 : w6.cell? ⟨w.heap.size, 1, none⟩ = _ := blk_cell hL.out.box 1
  have d2 : w6.cell? ⟨w.heap.size, 2, none⟩ = _ := blk_cell hL.out.box 2
  have d3 : w6.cell? ⟨w.heap.size, 3, none⟩ = _ := blk_cell hL.out.box 3
  have d4 : w6.cell? ⟨w.heap.size, 4, none⟩ = _ := blk_cell hL.out.box 4
  go_wp2_with fail
  clear d0 d1 d2 d3 d4
  go_loopg [12, 13] 4 (fun gk s12 s13 wr => ∃ k : Nat, k ≤ 4 ∧ gk = 4 - k ∧ s12 = .int .i64 k ∧ L7 w wr 0 i0 i1 i2 i3 g1 c1 [0, 0, 0, 0] (.slice A2 (l).length c2) (l) (.slice A3 (l).length c3) (l))
  case atStart => exact ⟨0, by omega, rfl, rfl, hL.out⟩
  case round =>
    clear hL
    obtain ⟨k, hk, rfl, rfl, hM⟩ := hrel
    have hM' := Lib.hid hM
    have d0 : wr.cell? ⟨w.heap.size, 0, none⟩ = _ := blk_cell hM.box 0
    have d1 : wr.cell? ⟨w.heap.size, 1, none⟩ = _ := blk_cell hM.box 1
    have d2 : wr.cell? ⟨w.heap.size, 2, none⟩ = _ := blk_cell hM.box 2
    have d3 : wr.cell? ⟨w.heap.size, 3, none⟩ = _ := blk_cell hM.box 3
    have d4 : wr.cell? ⟨w.heap.size, 4, none⟩ = _ := blk_cell hM.box 4
    have p0 : wr.cell? ⟨g1, 0, none⟩ = some (.int .i16 0) := (Kd.R_celln (0 : Int) hM.r1 0 (by decide) (by decide)).1
    have p1 : wr.cell? ⟨g1, 1, none⟩ = some (.int .i16 0) := (Kd.R_celln (0 : Int) hM.r1 1 (by decide) (by decide)).1
    have p2 : wr.cell? ⟨g1, 2, none⟩ = some (.int .i16 0) := (Kd.R_celln (0 : Int) hM.r1 2 (by decide) (by decide)).1
    have p3 : wr.cell? ⟨g1, 3, none⟩ = some (.int .i16 0) := (Kd.R_celln (0 : Int) hM.r1 3 (by decide) (by decide)).1
    clear hM
    obtain rfl | rfl | rfl | rfl | rfl : k = 0 ∨ k = 1 ∨ k = 2 ∨ k = 3 ∨ k = 4 := by omega
    · go_wp2
      go_roundg 3
      case measure => omega
      case rel => exact ⟨1, by omega, rfl, rfl, hM'.out⟩
    · go_wp2
      go_roundg 2
      case measure => omega
      case rel => exact ⟨2, by omega, rfl, rfl, hM'.out⟩
    · go_wp2
      go_roundg 1
      case measure => omega
      case rel => exact ⟨3, by omega, rfl, rfl, hM'.out⟩
    · go_wp2
      go_roundg 0
      case measure => omega
      case rel => exact ⟨4, by omega, rfl, rfl, hM'.out⟩
    · go_wp2_with fail
      refine (same32_any _ _ _ _ l _ (R_C hM'.out.r2) hc2 (Kd.C_below Hr.out hM'.out.below) Hc.out (by omega)).mono ?_
      rintro e w7 ⟨rfl, nm, rfl⟩
      have hN := Lib.hid (hM'.out.drew nm)
      go_wp2_with fail
      refine (same32_any _ _ _ _ l _ (R_C hN.out.r3) hc3 (Kd.C_below Hr.out hN.out.below) Hc.out (by omega)).mono ?_
      rintro e w8 ⟨rfl, nm2, rfl⟩
      go_wp2_with fail
      go_ret
      exact ⟨rfl, (hM'.out.drew (nm + nm2)).below⟩
set_option maxRecDepth 100000 in
set_option maxHeartbeats 4000000 in
theorem l7_on (A : Option Addr) (c : Nat) (l : List Int) (i0 i1 i2 i3 : Int) (hl : l.length ≤ 120) (hf : Fok 1 i0 i1 i2 i3) (w : World) (hr : Kd.C (Kd.int .i32) w A l.length l) (hc : l.length ≤ c) (hx : ∀ x ∈ l, I32 x) :
    Calls Try.prog 7 #[.slice A l.length c, fval 1 i0 i1 i2 i3] w (tr7 l w) := by
  have Hr := Lib.hid hr
  have Hx := Lib.hid hx
  have Hc := Lib.hid hc
  clear hr hx hc
  have HB : Hid (Below w.heap.size w (w.alloc (.cells (row5 1 i0 i1 i2 i3) 54))) := (Below.refl _ _).alloc (Nat.le_refl _) _
  have HF : Hid ((w.alloc (.cells (row5 1 i0 i1 i2 i3) 54)).heap[w.heap.size]? = some (.cells (row5 1 i0 i1 i2 i3) 54 (0, 0))) := heap_alloc_new w _
  have h300 : ¬ (300 : Int) < (l.length : Int) := by omega
  have h120 : ¬ (120 : Int) < (l.length : Int) := by omega
  have e1 : Hid (partsv 1 i0 i1 i2 i3 = ([pv i0, pv i1, pv i2, pv i3], 0)) := by show _ = _; unfold partsv; rw [if_pos hf, if_neg (by decide)]
  have e2 : Hid (thrv runL l 1 i0 i1 i2 i3 = (runL (pv i0) (pv i1) (pv i2) (pv i3) l 0 0 0 0, 0)) := by show _ = _; unfold thrv; rw [if_neg (by omega), if_pos hf, if_neg (by decide)]
  have e3 : Hid (thrv undoL l 1 i0 i1 i2 i3 = (undoL (pv i0) (pv i1) (pv i2) (pv i3) l 0 0 0 0, 0)) := by show _ = _; unfold thrv; rw [if_neg (by omega), if_pos hf, if_neg (by decide)]
  have e4 : Hid (decide (Fok 1 i0 i1 i2 i3) = true) := decide_eq_true hf
  have bl0 : -32768 ≤ pv i0 := (pv_bd i0).1
  have bu0 : pv i0 ≤ 32767 := (pv_bd i0).2
  have bl1 : -32768 ≤ pv i1 := (pv_bd i1).1
  have bu1 : pv i1 ≤ 32767 := (pv_bd i1).2
  have bl2 : -32768 ≤ pv i2 := (pv_bd i2).1
  have bu2 : pv i2 ≤ 32767 := (pv_bd i2).2
  have bl3 : -32768 ≤ pv i3 := (pv_bd i3).1
  have bu3 : pv i3 ≤ 32767 := (pv_bd i3).2
  have hi0 : 0 ≤ i0 ∧ i0 ≤ 16 := by have := hf.2.1; unfold fin at this; omega
  have hi1 : 0 ≤ i1 ∧ i1 ≤ 16 := by have := hf.2.2.1; unfold fin at this; omega
  have hi2 : 0 ≤ i2 ∧ i2 ≤ 16 := by have := hf.2.2.2.1; unfold fin at this; omega
  have hi3 : 0 ≤ i3 ∧ i3 ≤ 16 := by have := hf.2.2.2.2; unfold fin at this; omega
  have hf := Lib.hid hf
  go_enter Try.func7, Try.ntmps7
  go_wp2_with fail
  refine (alive17_any _).mono ?_
  rintro e w1 ⟨rfl, hb⟩
  replace HF := Lib.hid (blk_below HF.out hb)
  replace HB := Lib.hid (below_then HB.out (by simp) hb)
  clear hb
  have d0 : w1.cell? ⟨w.heap.size, 0, none⟩ = _ := blk_cell HF.out 0
  have d1 : w1.cell? ⟨w.heap.size, 1, none⟩ = _ := blk_cell HF.out 1
  have d2 : w1.cell? ⟨w.heap.size, 2, none⟩ = _ := blk_cell HF.out 2
  have d3 : w1.cell? ⟨w.heap.size, 3, none⟩ = _ := blk_cell HF.out 3
  have d4 : w1.cell? ⟨w.heap.size, 4, none⟩ = _ := blk_cell HF.out 4
  go_wp2_with fail
  clear d0 d1 d2 d3 d4
  refine (parts_any 1 i0 i1 i2 i3 _).mono ?_
  rw [e1.out]
  rintro e w2 ⟨v1, rfl, hR1, hb⟩
  replace HF := Lib.hid (blk_below HF.out hb)
  replace hR1 := Lib.hid (Kd.R_lower hR1 HB.out.size)
  replace HB := Lib.hid (below_then HB.out HB.out.size hb)
  clear hb
  have d0 : w2.cell? ⟨w.heap.size, 0, none⟩ = _ := blk_cell HF.out 0
  have d1 : w2.cell? ⟨w.heap.size, 1, none⟩ = _ := blk_cell HF.out 1
  have d2 : w2.cell? ⟨w.heap.size, 2, none⟩ = _ := blk_cell HF.out 2
  have d3 : w2.cell? ⟨w.heap.size, 3, none⟩ = _ := blk_cell HF.out 3
  have d4 : w2.cell? ⟨w.heap.size, 4, none⟩ = _ := blk_cell HF.out 4
  go_wp2_with fail
  clear d0 d1 d2 d3 d4
  refine (runf_any A c l 1 i0 i1 i2 i3 _ (Kd.C_below Hr.out HB.out) Hx.out).mono ?_
  rw [e2.out]
  rintro e w3 ⟨v2, rfl, hR2, hb⟩
  replace HF := Lib.hid (blk_below HF.out hb)
  replace hR1 := Lib.hid (Kd.R_below hR1.out hb)
  replace hR2 := Lib.hid (Kd.R_lower hR2 HB.out.size)
  replace HB := Lib.hid (below_then HB.out HB.out.size hb)
  clear hb
  have d0 : w3.cell? ⟨w.heap.size, 0, none⟩ = _ := blk_cell HF.out 0
  have d1 : w3.cell? ⟨w.heap.size, 1, none⟩ = _ := blk_cell HF.out 1
  have d2 : w3.cell? ⟨w.heap.size, 2, none⟩ = _ := blk_cell HF.out 2
  have d3 : w3.cell? ⟨w.heap.size, 3, none⟩ = _ := blk_cell HF.out 3
  have d4 : w3.cell? ⟨w.heap.size, 4, none⟩ = _ := blk_cell HF.out 4
  go_wp2_with fail
  clear d0 d1 d2 d3 d4
  refine (undof_any A c l 1 i0 i1 i2 i3 _ (Kd.C_below Hr.out HB.out) Hx.out).mono ?_
  rw [e3.out]
  rintro e w4 ⟨v3, rfl, hR3, hb⟩
  replace HF := Lib.hid (blk_below HF.out hb)
  replace hR1 := Lib.hid (Kd.R_below hR1.out hb)
  replace hR2 := Lib.hid (Kd.R_below hR2.out hb)
  replace hR3 := Lib.hid (Kd.R_lower hR3 HB.out.size)
  replace HB := Lib.hid (below_then HB.out HB.out.size hb)
  clear hb
  obtain ⟨A1, c1, rfl, hc1, _⟩ := Kd.R_reads hR1.out
  obtain ⟨A2, c2, rfl, hc2, _⟩ := Kd.R_reads hR2.out
  obtain ⟨A3, c3, rfl, hc3, _⟩ := Kd.R_reads hR3.out
  have d0 : w4.cell? ⟨w.heap.size, 0, none⟩ = _ := blk_cell HF.out 0
  have d1 : w4.cell? ⟨w.heap.size, 1, none⟩ = _ := blk_cell HF.out 1
  have d2 : w4.cell? ⟨w.heap.size, 2, none⟩ = _ := blk_cell HF.out 2
  have d3 : w4.cell? ⟨w.heap.size, 3, none⟩ = _ := blk_cell HF.out 3
  have d4 : w4.cell? ⟨w.heap.size, 4, none⟩ = _ := blk_cell HF.out 4
  go_wp2_with fail
  clear d0 d1 d2 d3 d4
  refine (rcheck_any 1 i0 i1 i2 i3 _).mono ?_
  rw [e4.out]
  rintro e w5 ⟨rfl, hb⟩
  replace hb := below_of_grown hb
  replace HF := Lib.hid (blk_below HF.out hb)
  replace hR1 := Lib.hid (Kd.R_below hR1.out hb)
  replace hR2 := Lib.hid (Kd.R_below hR2.out hb)
  replace hR3 := Lib.hid (Kd.R_below hR3.out hb)
  replace HB := Lib.hid (below_then HB.out HB.out.size hb)
  clear hb
  have d0 : w5.cell? ⟨w.heap.size, 0, none⟩ = _ := blk_cell HF.out 0
  have d1 : w5.cell? ⟨w.heap.size, 1, none⟩ = _ := blk_cell HF.out 1
  have d2 : w5.cell? ⟨w.heap.size, 2, none⟩ = _ := blk_cell HF.out 2
  have d3 : w5.cell? ⟨w.heap.size, 3, none⟩ = _ := blk_cell HF.out 3
  have d4 : w5.cell? ⟨w.heap.size, 4, none⟩ = _ := blk_cell HF.out 4
  go_wp2_with fail
  clear d0 d1 d2 d3 d4
  refine (tcheck_any 1 i0 i1 i2 i3 _ _ rfl).mono ?_
  rw [if_pos hf.out]
  rintro e w6 ⟨rfl, hb⟩
  replace hb := below_of_grown hb
  replace HF := Lib.hid (blk_below HF.out hb)
  replace hR1 := Lib.hid (Kd.R_below hR1.out hb)
  replace hR2 := Lib.hid (Kd.R_below hR2.out hb)
  replace hR3 := Lib.hid (Kd.R_below hR3.out hb)
  replace HB := Lib.hid (below_then HB.out HB.out.size hb)
  clear hb
  have d0 : w6.cell? ⟨w.heap.size, 0, none⟩ = _ := blk_cell HF.out 0
  have d1 : w6.cell? ⟨w.heap.size, 1, none⟩ = _ := blk_cell HF.out 1
  have d2 : w6.cell? ⟨w.heap.size, 2, none⟩ = _ := blk_cell HF.out 2
  have d3 : w6.cell? ⟨w.heap.size, 3, none⟩ = _ := blk_cell HF.out 3
  have d4 : w6.cell? ⟨w.heap.size, 4, none⟩ = _ := blk_cell HF.out 4
  clear d0 d1 d2 d3 d4
  obtain ⟨g1, c1, e1, _, _, hR1⟩ := R_fixed hR1.out (by simp)
  injection e1 with e1 _ e2
  subst e1 e2
  have hL : Hid (L7 w w6 1 i0 i1 i2 i3 g1 c1 [(pv i0), (pv i1), (pv i2), (pv i3)] _ _ _ _) := ⟨HF.out, hR1, hR2.out, hR3.out, HB.out⟩
  have hRC := Lib.hid (show True from trivial)
  clear hR1 hR2 hR3 HF HB
  have d0 : w6.cell? ⟨w.heap.size, 0, none⟩ = _ := blk_cell hL.out.box 0
  have d1 : w6.cell? ⟨w.heap.size, 1, none⟩ = _ := blk_cell hL.out.box 1
  have d2 : w6.cell? ⟨w.heap.size, 2, none⟩ = _ := blk_cell hL.out.box 2
  have d3 : w6.cell? ⟨w.heap.size, 3, none⟩ = _ := blk_cell hL.out.box 3
  have d4 : w6.cell? ⟨w.heap.size, 4, none⟩ = _ := blk_cell hL.out.box 4
  go_wp2_with fail
  clear d0 d1 d2 d3 d4
  go_loopg [12, 13] 4 (fun gk s12 s13 wr => ∃ k : Nat, k ≤ 4 ∧ gk = 4 - k ∧ s12 = .int .i64 k ∧ L7 w wr 1 i0 i1 i2 i3 g1 c1 [(pv i0), (pv i1), (pv i2), (pv i3)] (.slice A2 (runL (pv i0) (pv i1) (pv i2) (pv i3) l 0 0 0 0).length c2) (runL (pv i0) (pv i1) (pv i2) (pv i3) l 0 0 0 0) (.slice A3 (undoL (pv i0) (pv i1) (pv i2) (pv i3) l 0 0 0 0).length c3) (undoL (pv i0) (pv i1) (pv i2) (pv i3) l 0 0 0 0))
  case atStart => exact ⟨0, by omega, rfl, rfl, hL.out⟩
  case round =>
    clear hL
    obtain ⟨k, hk, rfl, rfl, hM⟩ := hrel
    have hM' := Lib.hid hM
    have d0 : wr.cell? ⟨w.heap.size, 0, none⟩ = _ := blk_cell hM.box 0
    have d1 : wr.cell? ⟨w.heap.size, 1, none⟩ = _ := blk_cell hM.box 1
    have d2 : wr.cell? ⟨w.heap.size, 2, none⟩ = _ := blk_cell hM.box 2
    have d3 : wr.cell? ⟨w.heap.size, 3, none⟩ = _ := blk_cell hM.box 3
    have d4 : wr.cell? ⟨w.heap.size, 4, none⟩ = _ := blk_cell hM.box 4
    have p0 : wr.cell? ⟨g1, 0, none⟩ = some (.int .i16 (pv i0)) := (Kd.R_celln (0 : Int) hM.r1 0 (by decide) (by decide)).1
    have p1 : wr.cell? ⟨g1, 1, none⟩ = some (.int .i16 (pv i1)) := (Kd.R_celln (0 : Int) hM.r1 1 (by decide) (by decide)).1
    have p2 : wr.cell? ⟨g1, 2, none⟩ = some (.int .i16 (pv i2)) := (Kd.R_celln (0 : Int) hM.r1 2 (by decide) (by decide)).1
    have p3 : wr.cell? ⟨g1, 3, none⟩ = some (.int .i16 (pv i3)) := (Kd.R_celln (0 : Int) hM.r1 3 (by decide) (by decide)).1
    clear hM
    obtain rfl | rfl | rfl | rfl | rfl : k = 0 ∨ k = 1 ∨ k = 2 ∨ k = 3 ∨ k = 4 := by omega
    · go_wp2_with (go_at_call 37; refine (rpart_any i0 _ hi0.1 hi0.2).mono ?_; rintro e w7 ⟨rfl, nm, rfl⟩)
      go_roundg 3
      case measure => omega
      case rel => exact ⟨1, by omega, rfl, rfl, hM'.out.drew nm⟩
    · go_wp2_with (go_at_call 37; refine (rpart_any i1 _ hi1.1 hi1.2).mono ?_; rintro e w7 ⟨rfl, nm, rfl⟩)
      go_roundg 2
      case measure => omega
      case rel => exact ⟨2, by omega, rfl, rfl, hM'.out.drew nm⟩
    · go_wp2_with (go_at_call 37; refine (rpart_any i2 _ hi2.1 hi2.2).mono ?_; rintro e w7 ⟨rfl, nm, rfl⟩)
      go_roundg 1
      case measure => omega
      case rel => exact ⟨3, by omega, rfl, rfl, hM'.out.drew nm⟩
    · go_wp2_with (go_at_call 37; refine (rpart_any i3 _ hi3.1 hi3.2).mono ?_; rintro e w7 ⟨rfl, nm, rfl⟩)
      go_roundg 0
      case measure => omega
      case rel => exact ⟨4, by omega, rfl, rfl, hM'.out.drew nm⟩
    · go_wp2_with fail
      refine (rrun_run A c l i0 i1 i2 i3 _ (Kd.C_below Hr.out hM'.out.below) hl Hx.out ⟨hi0, hi1, hi2, hi3⟩).mono ?_
      rintro e w7 ⟨v7, rfl, hR7, hb⟩
      obtain ⟨A7, c7, rfl, hc7, hC7⟩ := Kd.R_reads hR7
      have hN := Lib.hid (hM'.out.under hb)
      replace hC7 := Lib.hid hC7
      clear hR7 hb hM' d0 d1 d2 d3 d4 p0 p1 p2 p3
      go_wp2_with fail
      refine (same32_any _ _ _ _ _ _ (R_C hN.out.r2) hc2 hC7.out hc7 (by rw [runL_len]; omega)).mono ?_
      rintro e w8 ⟨rfl, nm, rfl⟩
      have hO := Lib.hid (hN.out.drew nm)
      have d0 : (w7.drewN nm).cell? ⟨w.heap.size, 0, none⟩ = _ := blk_cell hO.out.box 0
      have d1 : (w7.drewN nm).cell? ⟨w.heap.size, 1, none⟩ = _ := blk_cell hO.out.box 1
      have d2 : (w7.drewN nm).cell? ⟨w.heap.size, 2, none⟩ = _ := blk_cell hO.out.box 2
      have d3 : (w7.drewN nm).cell? ⟨w.heap.size, 3, none⟩ = _ := blk_cell hO.out.box 3
      have d4 : (w7.drewN nm).cell? ⟨w.heap.size, 4, none⟩ = _ := blk_cell hO.out.box 4
      go_wp2_with fail
      refine (rrun_undo A c l i0 i1 i2 i3 _ (Kd.C_below Hr.out hO.out.below) hl Hx.out ⟨hi0, hi1, hi2, hi3⟩).mono ?_
      rintro e w9 ⟨v9, rfl, hR9, hb⟩
      obtain ⟨A9, c9, rfl, hc9, hC9⟩ := Kd.R_reads hR9
      have hP := Lib.hid (hO.out.under hb)
      replace hC9 := Lib.hid hC9
      clear hR9 hb d0 d1 d2 d3 d4
      go_wp2_with fail
      refine (same32_any _ _ _ _ _ _ (R_C hP.out.r3) hc3 hC9.out hc9 (by rw [undoL_len]; omega)).mono ?_
      rintro e w10 ⟨rfl, nm2, rfl⟩
      go_wp2_with fail
      go_ret
      exact ⟨rfl, (hP.out.drew nm2).below⟩
theorem l7_any (A : Option Addr) (c : Nat) (l : List Int) (on i0 i1 i2 i3 : Int) (w : World) (hr : Kd.C (Kd.int .i32) w A l.length l) (hc : l.length ≤ c) (hx : ∀ x ∈ l, I32 x) :
    Calls Try.prog 7 #[.slice A l.length c, fval on i0 i1 i2 i3] w fun e w' => e = .returned (.bool true) ∧ Below w.heap.size w w' := by
  by_cases h3 : 300 < l.length
  · exact l7_far A _ c on i0 i1 i2 i3 w h3
  by_cases hf : Fok on i0 i1 i2 i3
  · by_cases h1 : 120 < l.length
    · rcases hf.1 with rfl | rfl
      · exact l7_off_long A c l i0 i1 i2 i3 h1 (by omega) hf w hr hc hx
      · exact l7_on_long A c l i0 i1 i2 i3 h1 (by omega) hf w hr hc hx
    · rcases hf.1 with rfl | rfl
      · exact l7_off A c l i0 i1 i2 i3 (by omega) hf w hr hc hx
      · exact l7_on A c l i0 i1 i2 i3 (by omega) hf w hr hc hx
  · by_cases h1 : 120 < l.length
    · exact l7_bad_long A c l on i0 i1 i2 i3 h1 (by omega) hf w hr hc hx
    · exact l7_bad_short A c l on i0 i1 i2 i3 (by omega) hf w hr hc hx
end Go.Proofs.YtojlgjdebokelabH
