import Derived.Test.YtojlgjdebokelabHRs
set_option linter.unusedVariables false
set_option linter.unusedSimpArgs false
namespace Go.Proofs.YtojlgjdebokelabH
open Go.RowKit Go.Proofs.YtojlgjdebokelabW.PrintWords Go.Proofs.YtojlgjdebokelabW.PrintMore Go.Proofs.YtojlgjdebokelabW
attribute [local go_sem ↓] Go.wp_at_zero Go.wp_at_succ
theorem step_eq (l : List Int) (k : Nat) (h : k < l.length) (x : Int) (hx : x = rd l k) : l.drop k = x :: l.drop (k + 1) := by
  rw [List.drop_eq_getElem_cons h]
  congr 1
  rw [hx]
  unfold rd
  rw [List.getD_eq_getElem?_getD, Int.toNat_natCast, List.getElem?_eq_getElem h]; rfl

set_option maxRecDepth 100000 in
set_option maxHeartbeats 16000000 in
theorem rrun_run (A : Option Addr) (c : Nat) (l : List Int) (i0 i1 i2 i3 : Int) (w : World) (hr : Kd.C (Kd.int .i32) w A l.length l) (hl : l.length ≤ 120) (hx : ∀ x ∈ l, I32 x) (hi : (0 ≤ i0 ∧ i0 ≤ 16) ∧ (0 ≤ i1 ∧ i1 ≤ 16) ∧ (0 ≤ i2 ∧ i2 ≤ 16) ∧ (0 ≤ i3 ∧ i3 ≤ 16)) :
    Calls Try.prog 38 #[.slice A l.length c, fval 1 i0 i1 i2 i3, .bool false] w fun e w' => ∃ v, e = .returned v ∧ Kd.R (Kd.int .i32) 21 w' w.heap.size (fun _ => True) v (runL (pv i0) (pv i1) (pv i2) (pv i3) l 0 0 0 0) ∧ Below w.heap.size w w' := by
  have Hr := Lib.hid hr
  have Hx := Lib.hid hx
  obtain ⟨⟨p0, q0⟩, ⟨p1, q1⟩, ⟨p2, q2⟩, ⟨p3, q3⟩⟩ := hi
  clear hr hx
  have hst : Hid (RS w.heap.size w ((w.alloc (.cells (row5 1 i0 i1 i2 i3) 54)).alloc (.cells (row4 0 0 0 0) 132)) 1 i0 i1 i2 i3 0 0 0 0 (.slice none 0 0) []) :=
    ⟨blk_alloc (heap_alloc_new w _) _, by have := heap_alloc_new (w.alloc (.cells (row5 1 i0 i1 i2 i3) 54)) (.cells (row4 0 0 0 0) 132); simpa using this, Kd.R_nil _ _ _ _ _, ((Below.refl _ _).alloc (Nat.le_refl _) _).alloc (by simp) _⟩
  go_enter Try.func38, Try.ntmps38
  go_wp2
  go_loopw [8, 9] (fun v i wr => ∃ k : Nat, k ≤ l.length ∧ i = .int .i64 k ∧ ∃ ys s0 s1 s2 s3, RS w.heap.size w wr 1 i0 i1 i2 i3 s0 s1 s2 s3 v ys ∧ (I32 s0 ∧ I32 s1 ∧ I32 s2 ∧ I32 s3) ∧ ys.length = k ∧ ys ++ runL (pv i0) (pv i1) (pv i2) (pv i3) (l.drop k) s0 s1 s2 s3 = runL (pv i0) (pv i1) (pv i2) (pv i3) l 0 0 0 0) (fun _ i _ => l.length - (intOf i).toNat)
  case atStart => exact ⟨0, by omega, rfl, [], 0, 0, 0, 0, hst, ⟨by unfold I32; omega, by unfold I32; omega, by unfold I32; omega, by unfold I32; omega⟩, rfl, rfl⟩
  case round =>
    obtain ⟨k, hk, rfl, ys, s0, s1, s2, s3, hS, ⟨hs0, hs1, hs2, hs3⟩, hlen, hfull⟩ := hrel
    by_cases hlt : k < l.length
    · obtain ⟨wo, hwo⟩ : ∃ W, W = wr := ⟨_, rfl⟩
      subst hwo
      have hkl : (k : Int) < (l.length : Int) := by omega
      have hk0 : (0 : Int) ≤ (k : Int) := by omega
      obtain ⟨ad, rfl, hc⟩ := Kd.at_int (Kd.C_below Hr.out hS.below) (k : Int) hk0 hkl
      have hxx : I32 (rd l k) := Hx.out _ (rd_mem l k hk0 hkl)
      generalize hxd : rd l k = x at hc hxx
      have Hd := Lib.hid (step_eq l k hlt x hxd.symm)
      have Hf := Lib.hid hfull
      have Hlen := Lib.hid hlen
      clear hxd hfull hlen
      rw [Int.toNat_natCast] at hc
      obtain ⟨xb0, xb1⟩ := id hxx
      obtain ⟨a1, e_a1⟩ : ∃ a, a = addv x (mulv s0 (pv i0)) := ⟨_, rfl⟩
      have ha1 : I32 a1 := e_a1 ▸ addv_bd _ _
      replace e_a1 := Lib.hid e_a1
      obtain ⟨a2, e_a2⟩ : ∃ a, a = addv a1 (mulv s1 (pv i1)) := ⟨_, rfl⟩
      have ha2 : I32 a2 := e_a2 ▸ addv_bd _ _
      replace e_a2 := Lib.hid e_a2
      obtain ⟨a3, e_a3⟩ : ∃ a, a = addv a2 (mulv s2 (pv i2)) := ⟨_, rfl⟩
      have ha3 : I32 a3 := e_a3 ▸ addv_bd _ _
      replace e_a3 := Lib.hid e_a3
      obtain ⟨a4, e_a4⟩ : ∃ a, a = addv a3 (mulv s3 (pv i3)) := ⟨_, rfl⟩
      have ha4 : I32 a4 := e_a4 ▸ addv_bd _ _
      replace e_a4 := Lib.hid e_a4
      obtain ⟨b1, e_b1⟩ : ∃ a, a = addv s0 (mulv x (pv i0)) := ⟨_, rfl⟩
      have hb1 : I32 b1 := e_b1 ▸ addv_bd _ _
      replace e_b1 := Lib.hid e_b1
      obtain ⟨b2, e_b2⟩ : ∃ a, a = addv s1 (mulv a1 (pv i1)) := ⟨_, rfl⟩
      have hb2 : I32 b2 := e_b2 ▸ addv_bd _ _
      replace e_b2 := Lib.hid e_b2
      obtain ⟨b3, e_b3⟩ : ∃ a, a = addv s2 (mulv a2 (pv i2)) := ⟨_, rfl⟩
      have hb3 : I32 b3 := e_b3 ▸ addv_bd _ _
      replace e_b3 := Lib.hid e_b3
      obtain ⟨b4, e_b4⟩ : ∃ a, a = addv s3 (mulv a3 (pv i3)) := ⟨_, rfl⟩
      have hb4 : I32 b4 := e_b4 ▸ addv_bd _ _
      replace e_b4 := Lib.hid e_b4
      obtain ⟨ob0, ob1⟩ := id ha4
      have hsz := hS.size
      have hn1 : wo.heap.size ≠ w.heap.size := by omega
      have hn2 : wo.heap.size ≠ w.heap.size + 1 := by omega
      have hH := R1.start hS 0 0 0 0 0
      have e0 : (wo.alloc (.cells (row5 0 0 0 0 0) 105)).cell? ⟨wo.heap.size, 0, none⟩ = some (.int .i64 0) := blk_cell hH.fb 0
      have g0 := blk_frozen hH.fb 0
      have hc2 : (wo.alloc (.cells (row5 0 0 0 0 0) 105)).cell? (ad.add k) = some (.int .i32 x) := (World.cell?_alloc_lt _ _ _ (World.block_lt_of_cell? _ _ hc)).trans hc
      go_wp2
      clear hH e0 g0 hc2 hc
      go_loopw [12] (fun j wj => (j = .int .i64 0 ∧ R1 w.heap.size wo.heap.size w wj 1 i0 i1 i2 i3 s0 s1 s2 s3 x 0 0 0 0 u8 ys) ∨ (j = .int .i64 1 ∧ R1 w.heap.size wo.heap.size w wj 1 i0 i1 i2 i3 s0 s1 s2 s3 x a1 0 0 0 u8 ys) ∨ (j = .int .i64 2 ∧ R1 w.heap.size wo.heap.size w wj 1 i0 i1 i2 i3 s0 s1 s2 s3 x a1 a2 0 0 u8 ys) ∨ (j = .int .i64 3 ∧ R1 w.heap.size wo.heap.size w wj 1 i0 i1 i2 i3 s0 s1 s2 s3 x a1 a2 a3 0 u8 ys) ∨ (j = .int .i64 4 ∧ R1 w.heap.size wo.heap.size w wj 1 i0 i1 i2 i3 s0 s1 s2 s3 x a1 a2 a3 a4 u8 ys)) (fun j _ => 4 - (intOf j).toNat)
      case atStart => exact .inl ⟨rfl, R1.start hS x 0 0 0 0⟩
      case round =>
        clear hS
        rcases hrel with ⟨rfl, hM⟩ | ⟨rfl, hM⟩ | ⟨rfl, hM⟩ | ⟨rfl, hM⟩ | ⟨rfl, hM⟩
        · have c0 : wr.cell? ⟨w.heap.size + 1, 0, none⟩ = some (.int .i64 s0) := blk_cell hM.rs.sts 0
          have c1 : wr.cell? ⟨w.heap.size, 1, none⟩ = some (.int .i64 i0) := blk_cell hM.rs.fil 1
          have d0 : wr.cell? ⟨wo.heap.size, 0, none⟩ = some (.int .i64 x) := blk_cell hM.fb 0
          have d1 : wr.cell? ⟨wo.heap.size, 1, none⟩ = some (.int .i64 0) := blk_cell hM.fb 1
          have g0 := blk_frozen hM.fb 1
          have hw1 : IntKind.i64.wrap (0 + 1) = 1 := by decide
          have hw2 : IntKind.i64.wrap 0 = 0 := by decide
          have hw3 : IntKind.i64.wrap 1 = 1 := by decide
          go_wp2_with fail
          go_region_held3 (fun w' => w'.cell? ⟨wo.heap.size, 0, none⟩ = some (.int .i64 x) ∧ w'.cell? ⟨w.heap.size + 1, 0, none⟩ = some (.int .i64 s0) ∧ w'.cell? ⟨w.heap.size, 1, none⟩ = some (.int .i64 i0)) (first | exact hHeld | exact ⟨d0, c0, c1⟩ | exact ⟨(World.cell?_setCell_other _ _ _ _ (by simp)).trans (by assumption), (World.cell?_setCell_other _ _ _ _ (by simp [hn2])).trans (by assumption), (World.cell?_setCell_other _ _ _ _ (by simp [hn1])).trans (by assumption)⟩) ((first | (go_at_call 37; refine (rpart_any i0 _ (by assumption) (by assumption)).mono ?_; rintro e w1 ⟨rfl, nm1, rfl⟩) | (go_at_call 81; refine (rmul_any s0 (pv i0) _ (by assumption) (pv_bd _)).mono ?_; rintro e w1 ⟨rfl, nm2, rfl⟩) | (go_at_call 80; refine (radd_any _ _ _ hxx (by have := mulv_bd s0 (pv i0); unfold I32 at this; omega)).mono ?_; rintro e w1 ⟨rfl, nm3, rfl⟩)))
          go_wp2
          go_roundw
          case rel =>
            have hq : a1 = addv x (mulv s0 (pv i0)) := e_a1
            rw [← hq]
            exact .inr (.inl (⟨rfl, hM.set1 _ _⟩))
          case measure => simp [intOf]
        · have c0 : wr.cell? ⟨w.heap.size + 1, 1, none⟩ = some (.int .i64 s1) := blk_cell hM.rs.sts 1
          have c1 : wr.cell? ⟨w.heap.size, 2, none⟩ = some (.int .i64 i1) := blk_cell hM.rs.fil 2
          have d0 : wr.cell? ⟨wo.heap.size, 1, none⟩ = some (.int .i64 a1) := blk_cell hM.fb 1
          have d1 : wr.cell? ⟨wo.heap.size, 2, none⟩ = some (.int .i64 0) := blk_cell hM.fb 2
          have g0 := blk_frozen hM.fb 2
          have hw1 : IntKind.i64.wrap (1 + 1) = 2 := by decide
          have hw2 : IntKind.i64.wrap 1 = 1 := by decide
          have hw3 : IntKind.i64.wrap 2 = 2 := by decide
          go_wp2_with fail
          go_region_held3 (fun w' => w'.cell? ⟨wo.heap.size, 1, none⟩ = some (.int .i64 a1) ∧ w'.cell? ⟨w.heap.size + 1, 1, none⟩ = some (.int .i64 s1) ∧ w'.cell? ⟨w.heap.size, 2, none⟩ = some (.int .i64 i1)) (first | exact hHeld | exact ⟨d0, c0, c1⟩ | exact ⟨(World.cell?_setCell_other _ _ _ _ (by simp)).trans (by assumption), (World.cell?_setCell_other _ _ _ _ (by simp [hn2])).trans (by assumption), (World.cell?_setCell_other _ _ _ _ (by simp [hn1])).trans (by assumption)⟩) ((first | (go_at_call 37; refine (rpart_any i1 _ (by assumption) (by assumption)).mono ?_; rintro e w1 ⟨rfl, nm1, rfl⟩) | (go_at_call 81; refine (rmul_any s1 (pv i1) _ (by assumption) (pv_bd _)).mono ?_; rintro e w1 ⟨rfl, nm2, rfl⟩) | (go_at_call 80; refine (radd_any _ _ _ ha1 (by have := mulv_bd s1 (pv i1); unfold I32 at this; omega)).mono ?_; rintro e w1 ⟨rfl, nm3, rfl⟩)))
          go_wp2
          go_roundw
          case rel =>
            have hq : a2 = addv a1 (mulv s1 (pv i1)) := e_a2
            rw [← hq]
            exact .inr (.inr (.inl (⟨rfl, hM.set2 _ _⟩)))
          case measure => simp [intOf]
        · have c0 : wr.cell? ⟨w.heap.size + 1, 2, none⟩ = some (.int .i64 s2) := blk_cell hM.rs.sts 2
          have c1 : wr.cell? ⟨w.heap.size, 3, none⟩ = some (.int .i64 i2) := blk_cell hM.rs.fil 3
          have d0 : wr.cell? ⟨wo.heap.size, 2, none⟩ = some (.int .i64 a2) := blk_cell hM.fb 2
          have d1 : wr.cell? ⟨wo.heap.size, 3, none⟩ = some (.int .i64 0) := blk_cell hM.fb 3
          have g0 := blk_frozen hM.fb 3
          have hw1 : IntKind.i64.wrap (2 + 1) = 3 := by decide
          have hw2 : IntKind.i64.wrap 2 = 2 := by decide
          have hw3 : IntKind.i64.wrap 3 = 3 := by decide
          go_wp2_with fail
          go_region_held3 (fun w' => w'.cell? ⟨wo.heap.size, 2, none⟩ = some (.int .i64 a2) ∧ w'.cell? ⟨w.heap.size + 1, 2, none⟩ = some (.int .i64 s2) ∧ w'.cell? ⟨w.heap.size, 3, none⟩ = some (.int .i64 i2)) (first | exact hHeld | exact ⟨d0, c0, c1⟩ | exact ⟨(World.cell?_setCell_other _ _ _ _ (by simp)).trans (by assumption), (World.cell?_setCell_other _ _ _ _ (by simp [hn2])).trans (by assumption), (World.cell?_setCell_other _ _ _ _ (by simp [hn1])).trans (by assumption)⟩) ((first | (go_at_call 37; refine (rpart_any i2 _ (by assumption) (by assumption)).mono ?_; rintro e w1 ⟨rfl, nm1, rfl⟩) | (go_at_call 81; refine (rmul_any s2 (pv i2) _ (by assumption) (pv_bd _)).mono ?_; rintro e w1 ⟨rfl, nm2, rfl⟩) | (go_at_call 80; refine (radd_any _ _ _ ha2 (by have := mulv_bd s2 (pv i2); unfold I32 at this; omega)).mono ?_; rintro e w1 ⟨rfl, nm3, rfl⟩)))
          go_wp2
          go_roundw
          case rel =>
            have hq : a3 = addv a2 (mulv s2 (pv i2)) := e_a3
            rw [← hq]
            exact .inr (.inr (.inr (.inl (⟨rfl, hM.set3 _ _⟩))))
          case measure => simp [intOf]
        · have c0 : wr.cell? ⟨w.heap.size + 1, 3, none⟩ = some (.int .i64 s3) := blk_cell hM.rs.sts 3
          have c1 : wr.cell? ⟨w.heap.size, 4, none⟩ = some (.int .i64 i3) := blk_cell hM.rs.fil 4
          have d0 : wr.cell? ⟨wo.heap.size, 3, none⟩ = some (.int .i64 a3) := blk_cell hM.fb 3
          have d1 : wr.cell? ⟨wo.heap.size, 4, none⟩ = some (.int .i64 0) := blk_cell hM.fb 4
          have g0 := blk_frozen hM.fb 4
          have hw1 : IntKind.i64.wrap (3 + 1) = 4 := by decide
          have hw2 : IntKind.i64.wrap 3 = 3 := by decide
          have hw3 : IntKind.i64.wrap 4 = 4 := by decide
          go_wp2_with fail
          go_region_held3 (fun w' => w'.cell? ⟨wo.heap.size, 3, none⟩ = some (.int .i64 a3) ∧ w'.cell? ⟨w.heap.size + 1, 3, none⟩ = some (.int .i64 s3) ∧ w'.cell? ⟨w.heap.size, 4, none⟩ = some (.int .i64 i3)) (first | exact hHeld | exact ⟨d0, c0, c1⟩ | exact ⟨(World.cell?_setCell_other _ _ _ _ (by simp)).trans (by assumption), (World.cell?_setCell_other _ _ _ _ (by simp [hn2])).trans (by assumption), (World.cell?_setCell_other _ _ _ _ (by simp [hn1])).trans (by assumption)⟩) ((first | (go_at_call 37; refine (rpart_any i3 _ (by assumption) (by assumption)).mono ?_; rintro e w1 ⟨rfl, nm1, rfl⟩) | (go_at_call 81; refine (rmul_any s3 (pv i3) _ (by assumption) (pv_bd _)).mono ?_; rintro e w1 ⟨rfl, nm2, rfl⟩) | (go_at_call 80; refine (radd_any _ _ _ ha3 (by have := mulv_bd s3 (pv i3); unfold I32 at this; omega)).mono ?_; rintro e w1 ⟨rfl, nm3, rfl⟩)))
          go_wp2
          go_roundw
          case rel =>
            have hq : a4 = addv a3 (mulv s3 (pv i3)) := e_a4
            rw [← hq]
            exact .inr (.inr (.inr (.inr (⟨rfl, hM.set4 _ _⟩))))
          case measure => simp [intOf]
        · have e4 : wr.cell? ⟨wo.heap.size, 4, none⟩ = some (.int .i64 a4) := blk_cell hM.fb 4
          have hyl : Hid (ys.length ≤ 120) := by have := Hlen.out; show ys.length ≤ 120; omega
          go_wp2_with ((with_reducible refine gate_builtin (b := .append) (xs := #[.tmp 82, .tmp 86]) rfl ?_); at_builtin; refine Kd.R_append (Kd.int .i32) (w0 := w) w.heap.size rfl (.tmp 82) (.tmp 86) 25 21 (.int .i32 0) 4 rfl Try.underlying25 clone32_info rfl (by decide) (by decide) u8 ys a4 [.int .i32 a4] (fun _ => True) (fun _ => False) rfl rfl rfl (fun _ hk => hk.elim) (fun _ _ => trivial) hM.rs.row hM.rs.below (by have := hM.rs.size; omega) (by have := hyl.out; omega) ?_; intro v1 w1 hrow hbel hgr hat; (have hP := hM.push hgr hrow hbel); (have hQ := Lib.hid (R2.start hP 0 0 0 0 0)); (have y0 : (w1.alloc (.cells (row5 0 0 0 0 0) 105)).cell? ⟨wo.heap.size, 0, none⟩ = some (.int .i64 x) := blk_cell hQ.fb 0); (have y1 : (w1.alloc (.cells (row5 0 0 0 0 0) 105)).cell? ⟨w1.heap.size, 0, none⟩ = some (.int .i64 0) := blk_cell hQ.bb 0); (have y2 := blk_frozen hQ.bb 0); clear hrow hbel hgr hat e4 hM)
          clear y0 y1 y2 hQ
          have hk1 : w1.heap.size ≠ w.heap.size := by have := hP.rs.size; omega
          have hk2 : w1.heap.size ≠ w.heap.size + 1 := by have := hP.rs.size; omega
          have hk3 : w1.heap.size ≠ wo.heap.size := by have := blk_lt hP.fb; omega
          go_loopw [14] (fun j wj => (j = .int .i64 0 ∧ R2 w.heap.size wo.heap.size w1.heap.size w wj 1 i0 i1 i2 i3 s0 s1 s2 s3 x a1 a2 a3 a4 x 0 0 0 0 v1 (ys ++ [a4])) ∨ (j = .int .i64 1 ∧ R2 w.heap.size wo.heap.size w1.heap.size w wj 1 i0 i1 i2 i3 s0 s1 s2 s3 x a1 a2 a3 a4 x b1 0 0 0 v1 (ys ++ [a4])) ∨ (j = .int .i64 2 ∧ R2 w.heap.size wo.heap.size w1.heap.size w wj 1 i0 i1 i2 i3 s0 s1 s2 s3 x a1 a2 a3 a4 x b1 b2 0 0 v1 (ys ++ [a4])) ∨ (j = .int .i64 3 ∧ R2 w.heap.size wo.heap.size w1.heap.size w wj 1 i0 i1 i2 i3 s0 s1 s2 s3 x a1 a2 a3 a4 x b1 b2 b3 0 v1 (ys ++ [a4])) ∨ (j = .int .i64 4 ∧ R2 w.heap.size wo.heap.size w1.heap.size w wj 1 i0 i1 i2 i3 s0 s1 s2 s3 x a1 a2 a3 a4 x b1 b2 b3 b4 v1 (ys ++ [a4]))) (fun j _ => 4 - (intOf j).toNat)
          case atStart => exact .inl ⟨rfl, R2.start hP x 0 0 0 0⟩
          case round =>
            clear hP
            rcases hrel with ⟨rfl, hM⟩ | ⟨rfl, hM⟩ | ⟨rfl, hM⟩ | ⟨rfl, hM⟩ | ⟨rfl, hM⟩
            · have c0 : wr.cell? ⟨w.heap.size + 1, 0, none⟩ = some (.int .i64 s0) := blk_cell hM.rs.sts 0
              have c1 : wr.cell? ⟨w.heap.size, 1, none⟩ = some (.int .i64 i0) := blk_cell hM.rs.fil 1
              have d0 : wr.cell? ⟨wo.heap.size, 0, none⟩ = some (.int .i64 x) := blk_cell hM.fb 0
              have d1 : wr.cell? ⟨w1.heap.size, 1, none⟩ = some (.int .i64 0) := blk_cell hM.bb 1
              have g0 := blk_frozen hM.bb 1
              have hw1 : IntKind.i64.wrap (0 + 1) = 1 := by decide
              have hw2 : IntKind.i64.wrap 0 = 0 := by decide
              have hw3 : IntKind.i64.wrap 1 = 1 := by decide
              go_wp2_with fail
              go_region_held3 (fun w' => w'.cell? ⟨wo.heap.size, 0, none⟩ = some (.int .i64 x) ∧ w'.cell? ⟨w.heap.size + 1, 0, none⟩ = some (.int .i64 s0) ∧ w'.cell? ⟨w.heap.size, 1, none⟩ = some (.int .i64 i0)) (first | exact hHeld | exact ⟨d0, c0, c1⟩ | exact ⟨(World.cell?_setCell_other _ _ _ _ (by simp [hk3])).trans (by assumption), (World.cell?_setCell_other _ _ _ _ (by simp [hk2])).trans (by assumption), (World.cell?_setCell_other _ _ _ _ (by simp [hk1])).trans (by assumption)⟩) ((first | (go_at_call 37; refine (rpart_any i0 _ (by assumption) (by assumption)).mono ?_; rintro e w1 ⟨rfl, nm1, rfl⟩) | (go_at_call 81; refine (rmul_any x (pv i0) _ (by assumption) (pv_bd _)).mono ?_; rintro e w1 ⟨rfl, nm2, rfl⟩) | (go_at_call 80; refine (radd_any _ _ _ hs0 (by have := mulv_bd x (pv i0); unfold I32 at this; omega)).mono ?_; rintro e w1 ⟨rfl, nm3, rfl⟩)))
              go_wp2
              go_roundw
              case rel =>
                have hq : b1 = addv s0 (mulv x (pv i0)) := e_b1
                rw [← hq]
                exact .inr (.inl (⟨rfl, hM.set1 _ _⟩))
              case measure => simp [intOf]
            · have c0 : wr.cell? ⟨w.heap.size + 1, 1, none⟩ = some (.int .i64 s1) := blk_cell hM.rs.sts 1
              have c1 : wr.cell? ⟨w.heap.size, 2, none⟩ = some (.int .i64 i1) := blk_cell hM.rs.fil 2
              have d0 : wr.cell? ⟨wo.heap.size, 1, none⟩ = some (.int .i64 a1) := blk_cell hM.fb 1
              have d1 : wr.cell? ⟨w1.heap.size, 2, none⟩ = some (.int .i64 0) := blk_cell hM.bb 2
              have g0 := blk_frozen hM.bb 2
              have hw1 : IntKind.i64.wrap (1 + 1) = 2 := by decide
              have hw2 : IntKind.i64.wrap 1 = 1 := by decide
              have hw3 : IntKind.i64.wrap 2 = 2 := by decide
              go_wp2_with fail
              go_region_held3 (fun w' => w'.cell? ⟨wo.heap.size, 1, none⟩ = some (.int .i64 a1) ∧ w'.cell? ⟨w.heap.size + 1, 1, none⟩ = some (.int .i64 s1) ∧ w'.cell? ⟨w.heap.size, 2, none⟩ = some (.int .i64 i1)) (first | exact hHeld | exact ⟨d0, c0, c1⟩ | exact ⟨(World.cell?_setCell_other _ _ _ _ (by simp [hk3])).trans (by assumption), (World.cell?_setCell_other _ _ _ _ (by simp [hk2])).trans (by assumption), (World.cell?_setCell_other _ _ _ _ (by simp [hk1])).trans (by assumption)⟩) ((first | (go_at_call 37; refine (rpart_any i1 _ (by assumption) (by assumption)).mono ?_; rintro e w1 ⟨rfl, nm1, rfl⟩) | (go_at_call 81; refine (rmul_any a1 (pv i1) _ (by assumption) (pv_bd _)).mono ?_; rintro e w1 ⟨rfl, nm2, rfl⟩) | (go_at_call 80; refine (radd_any _ _ _ hs1 (by have := mulv_bd a1 (pv i1); unfold I32 at this; omega)).mono ?_; rintro e w1 ⟨rfl, nm3, rfl⟩)))
              go_wp2
              go_roundw
              case rel =>
                have hq : b2 = addv s1 (mulv a1 (pv i1)) := e_b2
                rw [← hq]
                exact .inr (.inr (.inl (⟨rfl, hM.set2 _ _⟩)))
              case measure => simp [intOf]
            · have c0 : wr.cell? ⟨w.heap.size + 1, 2, none⟩ = some (.int .i64 s2) := blk_cell hM.rs.sts 2
              have c1 : wr.cell? ⟨w.heap.size, 3, none⟩ = some (.int .i64 i2) := blk_cell hM.rs.fil 3
              have d0 : wr.cell? ⟨wo.heap.size, 2, none⟩ = some (.int .i64 a2) := blk_cell hM.fb 2
              have d1 : wr.cell? ⟨w1.heap.size, 3, none⟩ = some (.int .i64 0) := blk_cell hM.bb 3
              have g0 := blk_frozen hM.bb 3
              have hw1 : IntKind.i64.wrap (2 + 1) = 3 := by decide
              have hw2 : IntKind.i64.wrap 2 = 2 := by decide
              have hw3 : IntKind.i64.wrap 3 = 3 := by decide
              go_wp2_with fail
              go_region_held3 (fun w' => w'.cell? ⟨wo.heap.size, 2, none⟩ = some (.int .i64 a2) ∧ w'.cell? ⟨w.heap.size + 1, 2, none⟩ = some (.int .i64 s2) ∧ w'.cell? ⟨w.heap.size, 3, none⟩ = some (.int .i64 i2)) (first | exact hHeld | exact ⟨d0, c0, c1⟩ | exact ⟨(World.cell?_setCell_other _ _ _ _ (by simp [hk3])).trans (by assumption), (World.cell?_setCell_other _ _ _ _ (by simp [hk2])).trans (by assumption), (World.cell?_setCell_other _ _ _ _ (by simp [hk1])).trans (by assumption)⟩) ((first | (go_at_call 37; refine (rpart_any i2 _ (by assumption) (by assumption)).mono ?_; rintro e w1 ⟨rfl, nm1, rfl⟩) | (go_at_call 81; refine (rmul_any a2 (pv i2) _ (by assumption) (pv_bd _)).mono ?_; rintro e w1 ⟨rfl, nm2, rfl⟩) | (go_at_call 80; refine (radd_any _ _ _ hs2 (by have := mulv_bd a2 (pv i2); unfold I32 at this; omega)).mono ?_; rintro e w1 ⟨rfl, nm3, rfl⟩)))
              go_wp2
              go_roundw
              case rel =>
                have hq : b3 = addv s2 (mulv a2 (pv i2)) := e_b3
                rw [← hq]
                exact .inr (.inr (.inr (.inl (⟨rfl, hM.set3 _ _⟩))))
              case measure => simp [intOf]
            · have c0 : wr.cell? ⟨w.heap.size + 1, 3, none⟩ = some (.int .i64 s3) := blk_cell hM.rs.sts 3
              have c1 : wr.cell? ⟨w.heap.size, 4, none⟩ = some (.int .i64 i3) := blk_cell hM.rs.fil 4
              have d0 : wr.cell? ⟨wo.heap.size, 3, none⟩ = some (.int .i64 a3) := blk_cell hM.fb 3
              have d1 : wr.cell? ⟨w1.heap.size, 4, none⟩ = some (.int .i64 0) := blk_cell hM.bb 4
              have g0 := blk_frozen hM.bb 4
              have hw1 : IntKind.i64.wrap (3 + 1) = 4 := by decide
              have hw2 : IntKind.i64.wrap 3 = 3 := by decide
              have hw3 : IntKind.i64.wrap 4 = 4 := by decide
              go_wp2_with fail
              go_region_held3 (fun w' => w'.cell? ⟨wo.heap.size, 3, none⟩ = some (.int .i64 a3) ∧ w'.cell? ⟨w.heap.size + 1, 3, none⟩ = some (.int .i64 s3) ∧ w'.cell? ⟨w.heap.size, 4, none⟩ = some (.int .i64 i3)) (first | exact hHeld | exact ⟨d0, c0, c1⟩ | exact ⟨(World.cell?_setCell_other _ _ _ _ (by simp [hk3])).trans (by assumption), (World.cell?_setCell_other _ _ _ _ (by simp [hk2])).trans (by assumption), (World.cell?_setCell_other _ _ _ _ (by simp [hk1])).trans (by assumption)⟩) ((first | (go_at_call 37; refine (rpart_any i3 _ (by assumption) (by assumption)).mono ?_; rintro e w1 ⟨rfl, nm1, rfl⟩) | (go_at_call 81; refine (rmul_any a3 (pv i3) _ (by assumption) (pv_bd _)).mono ?_; rintro e w1 ⟨rfl, nm2, rfl⟩) | (go_at_call 80; refine (radd_any _ _ _ hs3 (by have := mulv_bd a3 (pv i3); unfold I32 at this; omega)).mono ?_; rintro e w1 ⟨rfl, nm3, rfl⟩)))
              go_wp2
              go_roundw
              case rel =>
                have hq : b4 = addv s3 (mulv a3 (pv i3)) := e_b4
                rw [← hq]
                exact .inr (.inr (.inr (.inr (⟨rfl, hM.set4 _ _⟩))))
              case measure => simp [intOf]
            · go_wp2
              go_loopw [15] (fun j wj => (j = .int .i64 0 ∧ R2 w.heap.size wo.heap.size w1.heap.size w wj 1 i0 i1 i2 i3 s0 s1 s2 s3 x a1 a2 a3 a4 x b1 b2 b3 b4 v1 (ys ++ [a4])) ∨ (j = .int .i64 1 ∧ R2 w.heap.size wo.heap.size w1.heap.size w wj 1 i0 i1 i2 i3 x s1 s2 s3 x a1 a2 a3 a4 x b1 b2 b3 b4 v1 (ys ++ [a4])) ∨ (j = .int .i64 2 ∧ R2 w.heap.size wo.heap.size w1.heap.size w wj 1 i0 i1 i2 i3 x b1 s2 s3 x a1 a2 a3 a4 x b1 b2 b3 b4 v1 (ys ++ [a4])) ∨ (j = .int .i64 3 ∧ R2 w.heap.size wo.heap.size w1.heap.size w wj 1 i0 i1 i2 i3 x b1 b2 s3 x a1 a2 a3 a4 x b1 b2 b3 b4 v1 (ys ++ [a4])) ∨ (j = .int .i64 4 ∧ R2 w.heap.size wo.heap.size w1.heap.size w wj 1 i0 i1 i2 i3 x b1 b2 b3 x a1 a2 a3 a4 x b1 b2 b3 b4 v1 (ys ++ [a4]))) (fun j _ => 4 - (intOf j).toNat)
              case atStart => exact .inl ⟨rfl, hM⟩
              case round =>
                clear hM
                rcases hrel with ⟨rfl, hM⟩ | ⟨rfl, hM⟩ | ⟨rfl, hM⟩ | ⟨rfl, hM⟩ | ⟨rfl, hM⟩
                · have c0 : wr.cell? ⟨w.heap.size + 1, 0, none⟩ = some (.int .i64 s0) := blk_cell hM.rs.sts 0
                  have d0 : wr.cell? ⟨w1.heap.size, 0, none⟩ = some (.int .i64 x) := blk_cell hM.bb 0
                  have g0 := blk_frozen hM.rs.sts 0
                  go_wp2
                  go_roundw
                  case rel => exact .inr (.inl (⟨rfl, hM.copy0 _⟩))
                  case measure => simp [intOf]
                · have c0 : wr.cell? ⟨w.heap.size + 1, 1, none⟩ = some (.int .i64 s1) := blk_cell hM.rs.sts 1
                  have d0 : wr.cell? ⟨w1.heap.size, 1, none⟩ = some (.int .i64 b1) := blk_cell hM.bb 1
                  have g0 := blk_frozen hM.rs.sts 1
                  go_wp2
                  go_roundw
                  case rel => exact .inr (.inr (.inl (⟨rfl, hM.copy1 _⟩)))
                  case measure => simp [intOf]
                · have c0 : wr.cell? ⟨w.heap.size + 1, 2, none⟩ = some (.int .i64 s2) := blk_cell hM.rs.sts 2
                  have d0 : wr.cell? ⟨w1.heap.size, 2, none⟩ = some (.int .i64 b2) := blk_cell hM.bb 2
                  have g0 := blk_frozen hM.rs.sts 2
                  go_wp2
                  go_roundw
                  case rel => exact .inr (.inr (.inr (.inl (⟨rfl, hM.copy2 _⟩))))
                  case measure => simp [intOf]
                · have c0 : wr.cell? ⟨w.heap.size + 1, 3, none⟩ = some (.int .i64 s3) := blk_cell hM.rs.sts 3
                  have d0 : wr.cell? ⟨w1.heap.size, 3, none⟩ = some (.int .i64 b3) := blk_cell hM.bb 3
                  have g0 := blk_frozen hM.rs.sts 3
                  go_wp2
                  go_roundw
                  case rel => exact .inr (.inr (.inr (.inr (⟨rfl, hM.copy3 _⟩))))
                  case measure => simp [intOf]
                · go_wp2
                  go_roundw
                  case rel =>
                    refine ⟨k + 1, hlt, by push_cast; rfl, _, _, _, _, _, hM.rs, ⟨hxx, hb1, hb2, hb3⟩, by simp [Hlen.out], ?_⟩
                    have h := Hf.out
                    rw [Hd.out] at h
                    rw [← h]
                    simp only [runL, List.append_assoc, List.singleton_append]
                    have q1 : b1 = addv s0 (mulv x (pv i0)) := e_b1
                    have q2 : b2 = addv s1 (mulv a1 (pv i1)) := e_b2
                    have q3 : b3 = addv s2 (mulv a2 (pv i2)) := e_b3
                    have g0 : r1 x s0 (pv i0) = a1 := by exact (show a1 = addv x (mulv s0 (pv i0)) from e_a1).symm
                    have g1 : r2 x s0 (pv i0) s1 (pv i1) = a2 := by unfold r2; rw [g0]; exact (show a2 = addv a1 (mulv s1 (pv i1)) from e_a2).symm
                    have g2 : r3 x s0 (pv i0) s1 (pv i1) s2 (pv i2) = a3 := by unfold r3; rw [g1]; exact (show a3 = addv a2 (mulv s2 (pv i2)) from e_a3).symm
                    have g3 : r4 x s0 (pv i0) s1 (pv i1) s2 (pv i2) s3 (pv i3) = a4 := by unfold r4; rw [g2]; exact (show a4 = addv a3 (mulv s3 (pv i3)) from e_a4).symm
                    rw [g3, g0, g1, q1, q2, q3]
                  case measure => simp [intOf]; omega
    · obtain rfl : k = l.length := by omega
      have hkl : ¬ (l.length : Int) < (l.length : Int) := by omega
      rw [List.drop_eq_nil_of_le (Nat.le_refl _)] at hfull
      simp only [runL, List.append_nil] at hfull
      have Hf := Lib.hid hfull
      clear hfull
      go_wp2
      go_ret
      have hq := Hf.out
      refine ⟨_, rfl, ?_, hS.below⟩
      rw [← hq]
      exact hS.row
end Go.Proofs.YtojlgjdebokelabH
