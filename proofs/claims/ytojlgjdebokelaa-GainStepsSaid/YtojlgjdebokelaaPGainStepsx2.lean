-- Written by wip/myprint.py, a program of this session's, over the kit's print and this session's given texts. Not trusted: Lean checks it.
import Derived.Test.YtojlgjdebokelaaPGainStepsx0
import Derived.Test.YtojlgjdebokelaaPGainStepsx1
namespace Go.Proofs.Ytojlgjdebokelaa.PGainSteps
open Go.RowKit Go.Proofs.YtojlgjdebokelaaW.PrintWords Go.Proofs.YtojlgjdebokelaaW.PrintLast Go.Proofs.YtojlgjdebokelaaW.PrintMore
attribute [local go_sem] max2_int min2_int max_two min_two max_three min_three max_four min_four   -- for this text's walks alone
set_option linter.unusedVariables false
set_option linter.unusedSimpArgs false

/-! ### psalteryref19_Quantise: function 34 -/
def psalteryref19_Quantise.l0 : Nat → List Int → Int → List Int → Int → Option (List Int)
  | 0, _, _, _, _ => none
  | k + 1, x0, x5, x6, x7 => if x7 < (x0.length : Int) then (if 0 ≤ x7 then ((psalteryref19_abs.f (wrap64 (rd x0 x7))).bind fun t130 => (if x5 = 0 then (none) else (if (wrap64 (Int.tdiv (wrap64 ((wrap64 (t130 * 65536)) + (wrap64 (Int.tdiv (wrap64 (x5 * 3)) 8)))) x5)) > 32767 then (if (rd x0 x7) < 0 then (if x6.length < 17592186044416 then (psalteryref19_Quantise.l0 k x0 x5 (x6 ++ [-32767]) (wrap64 (x7 + 1))) else (none)) else (if x6.length < 17592186044416 then (psalteryref19_Quantise.l0 k x0 x5 (x6 ++ [32767]) (wrap64 (x7 + 1))) else (none))) else (if (rd x0 x7) < 0 then (if x6.length < 17592186044416 then (psalteryref19_Quantise.l0 k x0 x5 (x6 ++ [wrap64 (-(wrap64 (Int.tdiv (wrap64 ((wrap64 (t130 * 65536)) + (wrap64 (Int.tdiv (wrap64 (x5 * 3)) 8)))) x5)))]) (wrap64 (x7 + 1))) else (none)) else (if x6.length < 17592186044416 then (psalteryref19_Quantise.l0 k x0 x5 (x6 ++ [wrap64 (Int.tdiv (wrap64 ((wrap64 (t130 * 65536)) + (wrap64 (Int.tdiv (wrap64 (x5 * 3)) 8)))) x5)]) (wrap64 (x7 + 1))) else (none)))))) else (none)) else (some x6)
def psalteryref19_Quantise.f (k : Nat) (l0 : List Int) (a1 : Int) : Option (List Int) := (psalteryref19_Step.f a1).bind fun t128 => (psalteryref19_Quantise.l0 k l0 t128 ([] : List Int) 0)
theorem psalteryref19_Quantise.mono_l : ∀ k, (∀ y0 y1 y2 y3, LeO (psalteryref19_Quantise.l0 k y0 y1 y2 y3) (psalteryref19_Quantise.l0 (k + 1) y0 y1 y2 y3))
  | 0 => fun _ _ _ _ r h => by simp [psalteryref19_Quantise.l0] at h
  | k + 1 => by
    have ih0 := psalteryref19_Quantise.mono_l k
    · intro y0 y1 y2 y3
      unfold psalteryref19_Quantise.l0
      repeat' first
      | (with_reducible exact ih0 _ _ _ _)
      | (with_reducible exact LeO.refl _)
      | (with_reducible exact LeO.none _)
      | (with_reducible refine LeO.ite ?_ ?_)
      | (with_reducible refine LeO.bind ?_ (fun _ => ?_))
      | exact ih0 _ _ _ _
      | exact LeO.none _
      | refine LeO.ite ?_ ?_
      | refine LeO.bind ?_ (fun _ => ?_)
theorem psalteryref19_Quantise.mono : ∀ a0 a1 k, LeO (psalteryref19_Quantise.f k a0 a1) (psalteryref19_Quantise.f (k + 1) a0 a1) := by
  intro a0 a1 k
  have ih0 := psalteryref19_Quantise.mono_l k
  unfold psalteryref19_Quantise.f
  repeat' first
      | (with_reducible exact ih0 _ _ _ _)
      | (with_reducible exact LeO.refl _)
      | (with_reducible exact LeO.none _)
      | (with_reducible refine LeO.ite ?_ ?_)
      | (with_reducible refine LeO.bind ?_ (fun _ => ?_))
      | exact ih0 _ _ _ _
      | exact LeO.none _
      | refine LeO.ite ?_ ?_
      | refine LeO.bind ?_ (fun _ => ?_)
set_option maxHeartbeats 8000000 in
set_option maxRecDepth 100000 in
theorem psalteryref19_Quantise.calls (k : Nat) (A0 : Option Addr) (c0 : Nat) (l0 : List Int) (a1 : Int) (r : List Int) (w : World) (hr0 : Kd.C (Kd.int .i32) w A0 l0.length l0) (hc0 : l0.length ≤ c0) (h : psalteryref19_Quantise.f k l0 a1 = some r) :
    Calls Try.prog 34 #[.slice A0 l0.length c0, .int .i64 a1] w fun e w' => ∃ v0_ : Value, e = .returned (v0_) ∧ Kd.R (Kd.int .i64) 3 w' w.heap.size (fun _ => True) v0_ r ∧ Below w.heap.size w w' := by
  have HR0 := Aside0.mk hr0
  have HC0 := Aside0.mk hc0
  clear hr0 hc0
  have HB := Aside0.mk (Below.refl w.heap.size w)
  have H : ((psalteryref19_Step.f a1).bind fun t128 => (psalteryref19_Quantise.l0 k l0 t128 ([] : List Int) 0)) = some r := h
  clear h
  replace H := Option.bind_eq_some_iff.mp H
  obtain ⟨t128, A30, H⟩ := H
  replace H : (psalteryref19_Quantise.l0 k l0 t128 ([] : List Int) 0) = some r := H
  have A3 := Aside0.mk A30
  clear A30
  have H' := Aside0.mk H
  clear H
  go_enter Try.func34, Try.ntmps34
  go_wp2_with (first | ((with_reducible refine gate_callee (f := 32) rfl ?_); refine goesL_ (some 10) rfl rfl Try.func32 (by kernel_rfl) rfl #[.int .i64 a1] rfl (by (try simp only [List.map_toArray, List.map_cons, List.map_nil]); first | done | rfl | (simp only [List.length_drop, List.length_take]; rfl)) ?_; (with_reducible refine (psalteryref19_Step.calls a1 t128 _ A3.out).mono ?_); rintro e w4 ⟨rfl, hb⟩; refine ⟨_, rfl, ?_⟩; have n0_ := Aside0.mk (below_step (by repeat (first | (with_reducible first | exact HB.out | apply below_alloc | apply pw_below_drewN | apply below_drew1) | exact HB.out)) hb); clear HB; have HB := n0_; clear n0_; (try clear hb); (try clear hb2); (try clear hk); (try clear hi)))
  go_loopg [6, 7] k (fun kq v6 v7 w' => ∃ (x6_1 : List Int) (x7_1 : Int), v7 = .int .i64 x7_1 ∧ Aside0 (psalteryref19_Quantise.l0 kq l0 t128 x6_1 x7_1 = some r) ∧ Aside0 (kq ≤ k) ∧ Aside0 (Kd.R (Kd.int .i64) 3 w' w.heap.size (fun _ => True) v6 x6_1) ∧ Aside0 (Below w.heap.size w w'))
  case atStart => exact ⟨(([] : List Int)), (0), (by first | rfl | (simp; done) | (simp [*]; done)), H', ⟨Nat.le_refl _⟩, ⟨by first | exact Kd.R_nil _ _ _ _ _ | exact Kd.N_nil _ _ _ _ _ | exact Kd.V_nil _ _ _ _ _ | exact Kd.Q_nil _ _ _ _ _ | exact Kd.S_nil _ _ _ _ _⟩, ⟨by repeat (first | (with_reducible first | exact HB.out | apply below_alloc | apply pw_below_drewN | apply below_drew1) | exact HB.out)⟩⟩
  case round =>
    clear H'
    try clear p2
    try clear c3
    obtain ⟨x6_1, x7_1, rfl, HA, HK1, HO_6, HB⟩ := hrel
    cases gk with
    | zero => exact absurd HA.out (by simp [psalteryref19_Quantise.l0])
    | succ k1 =>
      have H := HA.out
      clear HA
      simp only [psalteryref19_Quantise.l0] at H
      by_cases c5 : x7_1 < (l0.length : Int)
      · rw [if_pos c5] at H
        have c5b0 : decide (x7_1 < (l0.length : Int)) = true := decide_eq_true c5
        clear c5
        by_cases c6 : 0 ≤ x7_1
        · rw [if_pos c6] at H
          have c6b0 : decide (0 ≤ x7_1) = true := decide_eq_true c6
          clear c6
          replace H := Option.bind_eq_some_iff.mp H
          obtain ⟨t130, A70, H⟩ := H
          replace H : (if t128 = 0 then (none) else (if (wrap64 (Int.tdiv (wrap64 ((wrap64 (t130 * 65536)) + (wrap64 (Int.tdiv (wrap64 (t128 * 3)) 8)))) t128)) > 32767 then (if (rd l0 x7_1) < 0 then (if x6_1.length < 17592186044416 then (psalteryref19_Quantise.l0 k1 l0 t128 (x6_1 ++ [-32767]) (wrap64 (x7_1 + 1))) else (none)) else (if x6_1.length < 17592186044416 then (psalteryref19_Quantise.l0 k1 l0 t128 (x6_1 ++ [32767]) (wrap64 (x7_1 + 1))) else (none))) else (if (rd l0 x7_1) < 0 then (if x6_1.length < 17592186044416 then (psalteryref19_Quantise.l0 k1 l0 t128 (x6_1 ++ [wrap64 (-(wrap64 (Int.tdiv (wrap64 ((wrap64 (t130 * 65536)) + (wrap64 (Int.tdiv (wrap64 (t128 * 3)) 8)))) t128)))]) (wrap64 (x7_1 + 1))) else (none)) else (if x6_1.length < 17592186044416 then (psalteryref19_Quantise.l0 k1 l0 t128 (x6_1 ++ [wrap64 (Int.tdiv (wrap64 ((wrap64 (t130 * 65536)) + (wrap64 (Int.tdiv (wrap64 (t128 * 3)) 8)))) t128)]) (wrap64 (x7_1 + 1))) else (none))))) = some r := H
          have A7 := Aside0.mk A70
          clear A70
          by_cases c8 : t128 = 0
          · rw [if_pos c8] at H
            exact absurd H (by simp)
          · rw [if_neg c8] at H
            have c8b0 : (t128 == 0) = false := beq_eq_false_iff_ne.mpr c8
            have c8b1 : (t128 != 0) = true := bne_iff_ne.mpr c8
            by_cases c9 : (wrap64 (Int.tdiv (wrap64 ((wrap64 (t130 * 65536)) + (wrap64 (Int.tdiv (wrap64 (t128 * 3)) 8)))) t128)) > 32767
            · rw [if_pos c9] at H
              have c9b0 : decide (32767 < (wrap64 (Int.tdiv (wrap64 ((wrap64 (t130 * 65536)) + (wrap64 (Int.tdiv (wrap64 (t128 * 3)) 8)))) t128))) = true := decide_eq_true c9
              clear c9
              by_cases c10 : (rd l0 x7_1) < 0
              · rw [if_pos c10] at H
                have c10b0 : decide ((rd l0 x7_1) < 0) = true := decide_eq_true c10
                clear c10
                by_cases c11 : x6_1.length < 17592186044416
                · rw [if_pos c11] at H
                  have LMc11 := Aside0.mk c11
                  clear c11
                  obtain ⟨y132, hy132⟩ : ∃ y_ : List Int, y_ = (x6_1 ++ [-32767]) := ⟨_, rfl⟩
                  replace H : (psalteryref19_Quantise.l0 k1 l0 t128 y132 (wrap64 (x7_1 + 1))) = some r := by first | (rw [hy132]; with_reducible exact H) | (have H2_ := (Option.bind_some _ _).symm.trans H; rw [hy132]; with_reducible exact H2_) | (have H2_ := (Option.bind_some _ _).symm.trans H; with_reducible exact H2_) | with_reducible exact H | (rw [hy132]; exact H) | exact H
                  have Ny132 := Aside0.mk hy132
                  clear hy132
                  have H' := Aside0.mk H
                  clear H
                  have p129 : 0 ≤ (x7_1 : Int) := of_decide_eq_true (by first | (with_reducible assumption) | assumption)
                  have q129 : x7_1 < (l0.length : Int) := of_decide_eq_true (by first | (with_reducible assumption) | assumption)
                  obtain ⟨ad129, e129, hx129_0⟩ := Kd.at_int HR0.out x7_1 p129 q129
                  cases e129
                  replace hx129_0 := (HB.out.cell (World.block_lt_of_cell? w _ hx129_0)).trans hx129_0
                  replace p129 := eq_true p129
                  replace q129 := eq_true q129
                  go_wp2_with (first | ((with_reducible refine gate_callee (f := 56) rfl ?_); refine goesL_ (some 22) rfl rfl Try.func56 (by kernel_rfl) rfl #[.int .i64 (wrap64 (rd l0 x7_1))] rfl (by (try simp only [List.map_toArray, List.map_cons, List.map_nil]); first | done | rfl | (simp only [List.length_drop, List.length_take]; rfl)) ?_; (with_reducible refine (psalteryref19_abs.calls (wrap64 (rd l0 x7_1)) t130 _ A7.out).mono ?_); rintro e w' ⟨rfl, ⟨nd, rfl⟩⟩; refine ⟨_, rfl, ?_⟩; have p131 : 0 ≤ (x7_1 : Int) := of_decide_eq_true (by first | (with_reducible assumption) | assumption); have q131 : x7_1 < (l0.length : Int) := of_decide_eq_true (by first | (with_reducible assumption) | assumption); obtain ⟨ad131, e131, hx131_0⟩ := Kd.at_int HR0.out x7_1 p131 q131; obtain rfl : ad129 = ad131 := (by injection e131); replace hx131_0 := (HB.out.cell (World.block_lt_of_cell? w _ hx131_0)).trans hx131_0; replace p131 := eq_true p131; replace q131 := eq_true q131) | ((with_reducible refine gate_builtin (b := .append) (xs := #[.tmp 39, .tmp 41]) rfl ?_); at_builtin; refine Kd.R_append (Kd.int .i64) (w0 := w) w.heap.size rfl (.tmp 39) (.tmp 41) 51 3 (.int .i64 0) 8 rfl Try.underlying51 info3 rfl (by decide) (by omega) u6 x6_1 (-32767) [.int .i64 (-32767)] (fun _ => True) (fun _ => False) rfl rfl ?aP (fun _ hk => hk.elim) ?aF ?aO ?aB ?aS ?aL ?_; (case aP => exact rfl); (case aB => exact (by repeat (first | (with_reducible first | exact HB.out | apply below_alloc | apply pw_below_drewN | apply below_drew1) | exact HB.out))); (case aF => exact (fun _ _ => trivial)); (case aO => exact (by (with_reducible repeat (first | apply Kd.R_alloc | apply Kd.R_drewN | apply Kd.R_drew)); exact HO_6.out)); (case aS => exact (below_size (by repeat (first | (with_reducible first | exact HB.out | apply below_alloc | apply pw_below_drewN | apply below_drew1) | exact HB.out)))); (case aL => have := LMc11.out; omega); intro v133 w12 ho hb hg hat; rw [← Ny132.out] at ho; have n0_ := Aside0.mk (hb); have n1_ := Aside0.mk (ho); clear HB; clear HO_6; have HB := n0_; have HO134 := n1_; clear n0_ n1_; clear ho hb hg hat))
                  go_roundg k1
                  case measure => have := HK1.out; omega
                  case rel => exact ⟨(y132), (wrap64 (x7_1 + 1)), (by first | rfl | (simp; done) | (simp [*]; done)), H', ⟨by have := HK1.out; omega⟩, ⟨by (with_reducible repeat (first | apply Kd.R_alloc | apply Kd.R_drewN | apply Kd.R_drew)); exact HO134.out⟩, ⟨by repeat (first | (with_reducible first | exact HB.out | apply below_alloc | apply pw_below_drewN | apply below_drew1) | exact HB.out)⟩⟩
                · rw [if_neg c11] at H
                  exact absurd H (by simp)
              · rw [if_neg c10] at H
                have c10b0 : decide ((rd l0 x7_1) < 0) = false := decide_eq_false c10
                clear c10
                by_cases c13 : x6_1.length < 17592186044416
                · rw [if_pos c13] at H
                  have LMc13 := Aside0.mk c13
                  clear c13
                  obtain ⟨y135, hy135⟩ : ∃ y_ : List Int, y_ = (x6_1 ++ [32767]) := ⟨_, rfl⟩
                  replace H : (psalteryref19_Quantise.l0 k1 l0 t128 y135 (wrap64 (x7_1 + 1))) = some r := by first | (rw [hy135]; with_reducible exact H) | (have H2_ := (Option.bind_some _ _).symm.trans H; rw [hy135]; with_reducible exact H2_) | (have H2_ := (Option.bind_some _ _).symm.trans H; with_reducible exact H2_) | with_reducible exact H | (rw [hy135]; exact H) | exact H
                  have Ny135 := Aside0.mk hy135
                  clear hy135
                  have H' := Aside0.mk H
                  clear H
                  have p129 : 0 ≤ (x7_1 : Int) := of_decide_eq_true (by first | (with_reducible assumption) | assumption)
                  have q129 : x7_1 < (l0.length : Int) := of_decide_eq_true (by first | (with_reducible assumption) | assumption)
                  obtain ⟨ad129, e129, hx129_0⟩ := Kd.at_int HR0.out x7_1 p129 q129
                  cases e129
                  replace hx129_0 := (HB.out.cell (World.block_lt_of_cell? w _ hx129_0)).trans hx129_0
                  replace p129 := eq_true p129
                  replace q129 := eq_true q129
                  go_wp2_with (first | ((with_reducible refine gate_callee (f := 56) rfl ?_); refine goesL_ (some 22) rfl rfl Try.func56 (by kernel_rfl) rfl #[.int .i64 (wrap64 (rd l0 x7_1))] rfl (by (try simp only [List.map_toArray, List.map_cons, List.map_nil]); first | done | rfl | (simp only [List.length_drop, List.length_take]; rfl)) ?_; (with_reducible refine (psalteryref19_abs.calls (wrap64 (rd l0 x7_1)) t130 _ A7.out).mono ?_); rintro e w' ⟨rfl, ⟨nd, rfl⟩⟩; refine ⟨_, rfl, ?_⟩; have p131 : 0 ≤ (x7_1 : Int) := of_decide_eq_true (by first | (with_reducible assumption) | assumption); have q131 : x7_1 < (l0.length : Int) := of_decide_eq_true (by first | (with_reducible assumption) | assumption); obtain ⟨ad131, e131, hx131_0⟩ := Kd.at_int HR0.out x7_1 p131 q131; obtain rfl : ad129 = ad131 := (by injection e131); replace hx131_0 := (HB.out.cell (World.block_lt_of_cell? w _ hx131_0)).trans hx131_0; replace p131 := eq_true p131; replace q131 := eq_true q131) | ((with_reducible refine gate_builtin (b := .append) (xs := #[.tmp 39, .tmp 41]) rfl ?_); at_builtin; refine Kd.R_append (Kd.int .i64) (w0 := w) w.heap.size rfl (.tmp 39) (.tmp 41) 51 3 (.int .i64 0) 8 rfl Try.underlying51 info3 rfl (by decide) (by omega) u6 x6_1 32767 [.int .i64 32767] (fun _ => True) (fun _ => False) rfl rfl ?aP (fun _ hk => hk.elim) ?aF ?aO ?aB ?aS ?aL ?_; (case aP => exact rfl); (case aB => exact (by repeat (first | (with_reducible first | exact HB.out | apply below_alloc | apply pw_below_drewN | apply below_drew1) | exact HB.out))); (case aF => exact (fun _ _ => trivial)); (case aO => exact (by (with_reducible repeat (first | apply Kd.R_alloc | apply Kd.R_drewN | apply Kd.R_drew)); exact HO_6.out)); (case aS => exact (below_size (by repeat (first | (with_reducible first | exact HB.out | apply below_alloc | apply pw_below_drewN | apply below_drew1) | exact HB.out)))); (case aL => have := LMc13.out; omega); intro v136 w14 ho hb hg hat; rw [← Ny135.out] at ho; have n0_ := Aside0.mk (hb); have n1_ := Aside0.mk (ho); clear HB; clear HO_6; have HB := n0_; have HO137 := n1_; clear n0_ n1_; clear ho hb hg hat))
                  go_roundg k1
                  case measure => have := HK1.out; omega
                  case rel => exact ⟨(y135), (wrap64 (x7_1 + 1)), (by first | rfl | (simp; done) | (simp [*]; done)), H', ⟨by have := HK1.out; omega⟩, ⟨by (with_reducible repeat (first | apply Kd.R_alloc | apply Kd.R_drewN | apply Kd.R_drew)); exact HO137.out⟩, ⟨by repeat (first | (with_reducible first | exact HB.out | apply below_alloc | apply pw_below_drewN | apply below_drew1) | exact HB.out)⟩⟩
                · rw [if_neg c13] at H
                  exact absurd H (by simp)
            · rw [if_neg c9] at H
              have c9b0 : decide (32767 < (wrap64 (Int.tdiv (wrap64 ((wrap64 (t130 * 65536)) + (wrap64 (Int.tdiv (wrap64 (t128 * 3)) 8)))) t128))) = false := decide_eq_false c9
              clear c9
              by_cases c15 : (rd l0 x7_1) < 0
              · rw [if_pos c15] at H
                have c15b0 : decide ((rd l0 x7_1) < 0) = true := decide_eq_true c15
                clear c15
                by_cases c16 : x6_1.length < 17592186044416
                · rw [if_pos c16] at H
                  have LMc16 := Aside0.mk c16
                  clear c16
                  obtain ⟨y139, hy139⟩ : ∃ y_ : List Int, y_ = (x6_1 ++ [wrap64 (-(wrap64 (Int.tdiv (wrap64 ((wrap64 (t130 * 65536)) + (wrap64 (Int.tdiv (wrap64 (t128 * 3)) 8)))) t128)))]) := ⟨_, rfl⟩
                  replace H : (psalteryref19_Quantise.l0 k1 l0 t128 y139 (wrap64 (x7_1 + 1))) = some r := by first | (rw [hy139]; with_reducible exact H) | (have H2_ := (Option.bind_some _ _).symm.trans H; rw [hy139]; with_reducible exact H2_) | (have H2_ := (Option.bind_some _ _).symm.trans H; with_reducible exact H2_) | with_reducible exact H | (rw [hy139]; exact H) | exact H
                  have Ny139 := Aside0.mk hy139
                  clear hy139
                  have H' := Aside0.mk H
                  clear H
                  have p129 : 0 ≤ (x7_1 : Int) := of_decide_eq_true (by first | (with_reducible assumption) | assumption)
                  have q129 : x7_1 < (l0.length : Int) := of_decide_eq_true (by first | (with_reducible assumption) | assumption)
                  obtain ⟨ad129, e129, hx129_0⟩ := Kd.at_int HR0.out x7_1 p129 q129
                  cases e129
                  replace hx129_0 := (HB.out.cell (World.block_lt_of_cell? w _ hx129_0)).trans hx129_0
                  replace p129 := eq_true p129
                  replace q129 := eq_true q129
                  go_wp2_with (first | ((with_reducible refine gate_callee (f := 56) rfl ?_); refine goesL_ (some 22) rfl rfl Try.func56 (by kernel_rfl) rfl #[.int .i64 (wrap64 (rd l0 x7_1))] rfl (by (try simp only [List.map_toArray, List.map_cons, List.map_nil]); first | done | rfl | (simp only [List.length_drop, List.length_take]; rfl)) ?_; (with_reducible refine (psalteryref19_abs.calls (wrap64 (rd l0 x7_1)) t130 _ A7.out).mono ?_); rintro e w' ⟨rfl, ⟨nd, rfl⟩⟩; refine ⟨_, rfl, ?_⟩; have p138 : 0 ≤ (x7_1 : Int) := of_decide_eq_true (by first | (with_reducible assumption) | assumption); have q138 : x7_1 < (l0.length : Int) := of_decide_eq_true (by first | (with_reducible assumption) | assumption); obtain ⟨ad138, e138, hx138_0⟩ := Kd.at_int HR0.out x7_1 p138 q138; obtain rfl : ad129 = ad138 := (by injection e138); replace hx138_0 := (HB.out.cell (World.block_lt_of_cell? w _ hx138_0)).trans hx138_0; replace p138 := eq_true p138; replace q138 := eq_true q138) | ((with_reducible refine gate_builtin (b := .append) (xs := #[.tmp 39, .tmp 41]) rfl ?_); at_builtin; refine Kd.R_append (Kd.int .i64) (w0 := w) w.heap.size rfl (.tmp 39) (.tmp 41) 51 3 (.int .i64 0) 8 rfl Try.underlying51 info3 rfl (by decide) (by omega) u6 x6_1 (wrap64 (-(wrap64 (Int.tdiv (wrap64 ((wrap64 (t130 * 65536)) + (wrap64 (Int.tdiv (wrap64 (t128 * 3)) 8)))) t128)))) [.int .i64 (wrap64 (-(wrap64 (Int.tdiv (wrap64 ((wrap64 (t130 * 65536)) + (wrap64 (Int.tdiv (wrap64 (t128 * 3)) 8)))) t128))))] (fun _ => True) (fun _ => False) rfl rfl ?aP (fun _ hk => hk.elim) ?aF ?aO ?aB ?aS ?aL ?_; (case aP => exact rfl); (case aB => exact (by repeat (first | (with_reducible first | exact HB.out | apply below_alloc | apply pw_below_drewN | apply below_drew1) | exact HB.out))); (case aF => exact (fun _ _ => trivial)); (case aO => exact (by (with_reducible repeat (first | apply Kd.R_alloc | apply Kd.R_drewN | apply Kd.R_drew)); exact HO_6.out)); (case aS => exact (below_size (by repeat (first | (with_reducible first | exact HB.out | apply below_alloc | apply pw_below_drewN | apply below_drew1) | exact HB.out)))); (case aL => have := LMc16.out; omega); intro v140 w17 ho hb hg hat; rw [← Ny139.out] at ho; have n0_ := Aside0.mk (hb); have n1_ := Aside0.mk (ho); clear HB; clear HO_6; have HB := n0_; have HO141 := n1_; clear n0_ n1_; clear ho hb hg hat))
                  go_roundg k1
                  case measure => have := HK1.out; omega
                  case rel => exact ⟨(y139), (wrap64 (x7_1 + 1)), (by first | rfl | (simp; done) | (simp [*]; done)), H', ⟨by have := HK1.out; omega⟩, ⟨by (with_reducible repeat (first | apply Kd.R_alloc | apply Kd.R_drewN | apply Kd.R_drew)); exact HO141.out⟩, ⟨by repeat (first | (with_reducible first | exact HB.out | apply below_alloc | apply pw_below_drewN | apply below_drew1) | exact HB.out)⟩⟩
                · rw [if_neg c16] at H
                  exact absurd H (by simp)
              · rw [if_neg c15] at H
                have c15b0 : decide ((rd l0 x7_1) < 0) = false := decide_eq_false c15
                clear c15
                by_cases c18 : x6_1.length < 17592186044416
                · rw [if_pos c18] at H
                  have LMc18 := Aside0.mk c18
                  clear c18
                  obtain ⟨y142, hy142⟩ : ∃ y_ : List Int, y_ = (x6_1 ++ [wrap64 (Int.tdiv (wrap64 ((wrap64 (t130 * 65536)) + (wrap64 (Int.tdiv (wrap64 (t128 * 3)) 8)))) t128)]) := ⟨_, rfl⟩
                  replace H : (psalteryref19_Quantise.l0 k1 l0 t128 y142 (wrap64 (x7_1 + 1))) = some r := by first | (rw [hy142]; with_reducible exact H) | (have H2_ := (Option.bind_some _ _).symm.trans H; rw [hy142]; with_reducible exact H2_) | (have H2_ := (Option.bind_some _ _).symm.trans H; with_reducible exact H2_) | with_reducible exact H | (rw [hy142]; exact H) | exact H
                  have Ny142 := Aside0.mk hy142
                  clear hy142
                  have H' := Aside0.mk H
                  clear H
                  have p129 : 0 ≤ (x7_1 : Int) := of_decide_eq_true (by first | (with_reducible assumption) | assumption)
                  have q129 : x7_1 < (l0.length : Int) := of_decide_eq_true (by first | (with_reducible assumption) | assumption)
                  obtain ⟨ad129, e129, hx129_0⟩ := Kd.at_int HR0.out x7_1 p129 q129
                  cases e129
                  replace hx129_0 := (HB.out.cell (World.block_lt_of_cell? w _ hx129_0)).trans hx129_0
                  replace p129 := eq_true p129
                  replace q129 := eq_true q129
                  go_wp2_with (first | ((with_reducible refine gate_callee (f := 56) rfl ?_); refine goesL_ (some 22) rfl rfl Try.func56 (by kernel_rfl) rfl #[.int .i64 (wrap64 (rd l0 x7_1))] rfl (by (try simp only [List.map_toArray, List.map_cons, List.map_nil]); first | done | rfl | (simp only [List.length_drop, List.length_take]; rfl)) ?_; (with_reducible refine (psalteryref19_abs.calls (wrap64 (rd l0 x7_1)) t130 _ A7.out).mono ?_); rintro e w' ⟨rfl, ⟨nd, rfl⟩⟩; refine ⟨_, rfl, ?_⟩; have p138 : 0 ≤ (x7_1 : Int) := of_decide_eq_true (by first | (with_reducible assumption) | assumption); have q138 : x7_1 < (l0.length : Int) := of_decide_eq_true (by first | (with_reducible assumption) | assumption); obtain ⟨ad138, e138, hx138_0⟩ := Kd.at_int HR0.out x7_1 p138 q138; obtain rfl : ad129 = ad138 := (by injection e138); replace hx138_0 := (HB.out.cell (World.block_lt_of_cell? w _ hx138_0)).trans hx138_0; replace p138 := eq_true p138; replace q138 := eq_true q138) | ((with_reducible refine gate_builtin (b := .append) (xs := #[.tmp 39, .tmp 41]) rfl ?_); at_builtin; refine Kd.R_append (Kd.int .i64) (w0 := w) w.heap.size rfl (.tmp 39) (.tmp 41) 51 3 (.int .i64 0) 8 rfl Try.underlying51 info3 rfl (by decide) (by omega) u6 x6_1 (wrap64 (Int.tdiv (wrap64 ((wrap64 (t130 * 65536)) + (wrap64 (Int.tdiv (wrap64 (t128 * 3)) 8)))) t128)) [.int .i64 (wrap64 (Int.tdiv (wrap64 ((wrap64 (t130 * 65536)) + (wrap64 (Int.tdiv (wrap64 (t128 * 3)) 8)))) t128))] (fun _ => True) (fun _ => False) rfl rfl ?aP (fun _ hk => hk.elim) ?aF ?aO ?aB ?aS ?aL ?_; (case aP => exact rfl); (case aB => exact (by repeat (first | (with_reducible first | exact HB.out | apply below_alloc | apply pw_below_drewN | apply below_drew1) | exact HB.out))); (case aF => exact (fun _ _ => trivial)); (case aO => exact (by (with_reducible repeat (first | apply Kd.R_alloc | apply Kd.R_drewN | apply Kd.R_drew)); exact HO_6.out)); (case aS => exact (below_size (by repeat (first | (with_reducible first | exact HB.out | apply below_alloc | apply pw_below_drewN | apply below_drew1) | exact HB.out)))); (case aL => have := LMc18.out; omega); intro v143 w19 ho hb hg hat; rw [← Ny142.out] at ho; have n0_ := Aside0.mk (hb); have n1_ := Aside0.mk (ho); clear HB; clear HO_6; have HB := n0_; have HO144 := n1_; clear n0_ n1_; clear ho hb hg hat))
                  go_roundg k1
                  case measure => have := HK1.out; omega
                  case rel => exact ⟨(y142), (wrap64 (x7_1 + 1)), (by first | rfl | (simp; done) | (simp [*]; done)), H', ⟨by have := HK1.out; omega⟩, ⟨by (with_reducible repeat (first | apply Kd.R_alloc | apply Kd.R_drewN | apply Kd.R_drew)); exact HO144.out⟩, ⟨by repeat (first | (with_reducible first | exact HB.out | apply below_alloc | apply pw_below_drewN | apply below_drew1) | exact HB.out)⟩⟩
                · rw [if_neg c18] at H
                  exact absurd H (by simp)
        · rw [if_neg c6] at H
          exact absurd H (by simp)
      · rw [if_neg c5] at H
        have c5b0 : decide (x7_1 < (l0.length : Int)) = false := decide_eq_false c5
        clear c5
        obtain rfl := Option.some.inj H
        go_wp2
        go_ret
        exact ⟨_, by first | rfl | (simp [errW_none, errW_some] <;> rfl) | (simp [*, errW_none, errW_some] <;> rfl), by (with_reducible repeat (first | apply Kd.R_alloc | apply Kd.R_drewN | apply Kd.R_drew)); exact HO_6.out, by repeat (first | (with_reducible first | exact HB.out | apply below_alloc | apply pw_below_drewN | apply below_drew1) | exact HB.out)⟩

/-! ### psalterylaw19_GainSteps: function 7 -/
def psalterylaw19_GainSteps.j0 : Nat → List Int → Int → List Int → Int → Int → Bool → Option (Bool)
  | 0, _, _, _, _, _, _ => none
  | k + 1, x0, x1, x7, x8, x9, x45 => if x45 = true then (some false) else (if (x0.length : Int) > 120 then (if (x7.length : Int) = 0 then (some (x8 == 2)) else (some false)) else (if x9 = 0 then (if (x7.length : Int) = 0 then (some (x8 == 1)) else (some false)) else (if x8 = 0 then ((psalteryref19_Quantise.f k x0 x1).bind fun t154 => ((psalteryref19_Same.f k x7 t154).bind fun t157 => (some t157))) else (some false))))
def psalterylaw19_GainSteps.f (k : Nat) (l0 : List Int) (a1 : Int) : Option (Bool) := (psalterylaw19_alive.f k).bind fun t145 => (if t145 = true then ((psalterylaw19_far.f l0 ([] : List Int)).bind fun t146 => (if t146 = true then (some true) else ((gain_Step.f a1).bind fun bt147 => ((gain_Quantise.f k l0 a1).bind fun bt149 => ((psalteryref19_Step.f a1).bind fun t153 => (if (wrap64 (bt147.1)) = t153 then (if ((bt147.2 == 0) != (decide (t153 > 0))) = true then (psalterylaw19_GainSteps.j0 k l0 a1 bt149.1 bt149.2 t153 true) else (if t153 = 0 then (psalterylaw19_GainSteps.j0 k l0 a1 bt149.1 bt149.2 t153 (bt147.2 != 1)) else (psalterylaw19_GainSteps.j0 k l0 a1 bt149.1 bt149.2 t153 false))) else (psalterylaw19_GainSteps.j0 k l0 a1 bt149.1 bt149.2 t153 true))))))) else (some false))
theorem psalterylaw19_GainSteps.mono_l : ∀ k, (∀ y0 y1 y2 y3 y4 y5, LeO (psalterylaw19_GainSteps.j0 k y0 y1 y2 y3 y4 y5) (psalterylaw19_GainSteps.j0 (k + 1) y0 y1 y2 y3 y4 y5))
  | 0 => fun _ _ _ _ _ _ r h => by simp [psalterylaw19_GainSteps.j0] at h
  | k + 1 => by
    have ih0 := psalterylaw19_GainSteps.mono_l k
    · intro y0 y1 y2 y3 y4 y5
      unfold psalterylaw19_GainSteps.j0
      repeat' first
      | (with_reducible exact ih0 _ _ _ _ _ _)
      | (with_reducible exact gain_Quantise.mono _ _ _)
      | (with_reducible exact psalterylaw19_alive.mono _)
      | (with_reducible exact psalteryref19_Quantise.mono _ _ _)
      | (with_reducible exact psalteryref19_Same.mono _ _ _)
      | (with_reducible exact LeO.refl _)
      | (with_reducible exact LeO.none _)
      | (with_reducible refine LeO.ite ?_ ?_)
      | (with_reducible refine LeO.bind ?_ (fun _ => ?_))
      | exact ih0 _ _ _ _ _ _
      | exact gain_Quantise.mono _ _ _
      | exact psalterylaw19_alive.mono _
      | exact psalteryref19_Quantise.mono _ _ _
      | exact psalteryref19_Same.mono _ _ _
      | exact LeO.none _
      | refine LeO.ite ?_ ?_
      | refine LeO.bind ?_ (fun _ => ?_)
theorem psalterylaw19_GainSteps.mono : ∀ a0 a1 k, LeO (psalterylaw19_GainSteps.f k a0 a1) (psalterylaw19_GainSteps.f (k + 1) a0 a1) := by
  intro a0 a1 k
  have ih0 := psalterylaw19_GainSteps.mono_l k
  unfold psalterylaw19_GainSteps.f
  repeat' first
      | (with_reducible exact ih0 _ _ _ _ _ _)
      | (with_reducible exact gain_Quantise.mono _ _ _)
      | (with_reducible exact psalterylaw19_alive.mono _)
      | (with_reducible exact psalteryref19_Quantise.mono _ _ _)
      | (with_reducible exact psalteryref19_Same.mono _ _ _)
      | (with_reducible exact LeO.refl _)
      | (with_reducible exact LeO.none _)
      | (with_reducible refine LeO.ite ?_ ?_)
      | (with_reducible refine LeO.bind ?_ (fun _ => ?_))
      | exact ih0 _ _ _ _ _ _
      | exact gain_Quantise.mono _ _ _
      | exact psalterylaw19_alive.mono _
      | exact psalteryref19_Quantise.mono _ _ _
      | exact psalteryref19_Same.mono _ _ _
      | exact LeO.none _
      | refine LeO.ite ?_ ?_
      | refine LeO.bind ?_ (fun _ => ?_)
set_option maxHeartbeats 8000000 in
set_option maxRecDepth 100000 in
theorem psalterylaw19_GainSteps.calls (k : Nat) (A0 : Option Addr) (c0 : Nat) (l0 : List Int) (a1 : Int) (r : Bool) (w : World) (hr0 : Kd.C (Kd.int .i32) w A0 l0.length l0) (hc0 : l0.length ≤ c0) (h : psalterylaw19_GainSteps.f k l0 a1 = some r) :
    Calls Try.prog 7 #[.slice A0 l0.length c0, .int .i64 a1] w fun e w' => e = .returned (.bool r) ∧ Below w.heap.size w w' := by
  have HR0 := Aside0.mk hr0
  have HC0 := Aside0.mk hc0
  clear hr0 hc0
  have HB := Aside0.mk (Below.refl w.heap.size w)
  have H : ((psalterylaw19_alive.f k).bind fun t145 => (if t145 = true then ((psalterylaw19_far.f l0 ([] : List Int)).bind fun t146 => (if t146 = true then (some true) else ((gain_Step.f a1).bind fun bt147 => ((gain_Quantise.f k l0 a1).bind fun bt149 => ((psalteryref19_Step.f a1).bind fun t153 => (if (wrap64 (bt147.1)) = t153 then (if ((bt147.2 == 0) != (decide (t153 > 0))) = true then (psalterylaw19_GainSteps.j0 k l0 a1 bt149.1 bt149.2 t153 true) else (if t153 = 0 then (psalterylaw19_GainSteps.j0 k l0 a1 bt149.1 bt149.2 t153 (bt147.2 != 1)) else (psalterylaw19_GainSteps.j0 k l0 a1 bt149.1 bt149.2 t153 false))) else (psalterylaw19_GainSteps.j0 k l0 a1 bt149.1 bt149.2 t153 true))))))) else (some false))) = some r := h
  clear h
  replace H := Option.bind_eq_some_iff.mp H
  obtain ⟨t145, A30, H⟩ := H
  replace H : (if t145 = true then ((psalterylaw19_far.f l0 ([] : List Int)).bind fun t146 => (if t146 = true then (some true) else ((gain_Step.f a1).bind fun bt147 => ((gain_Quantise.f k l0 a1).bind fun bt149 => ((psalteryref19_Step.f a1).bind fun t153 => (if (wrap64 (bt147.1)) = t153 then (if ((bt147.2 == 0) != (decide (t153 > 0))) = true then (psalterylaw19_GainSteps.j0 k l0 a1 bt149.1 bt149.2 t153 true) else (if t153 = 0 then (psalterylaw19_GainSteps.j0 k l0 a1 bt149.1 bt149.2 t153 (bt147.2 != 1)) else (psalterylaw19_GainSteps.j0 k l0 a1 bt149.1 bt149.2 t153 false))) else (psalterylaw19_GainSteps.j0 k l0 a1 bt149.1 bt149.2 t153 true))))))) else (some false)) = some r := H
  have A3 := Aside0.mk A30
  clear A30
  by_cases c4 : t145 = true
  · subst c4
    have H1 : ((psalterylaw19_far.f l0 ([] : List Int)).bind fun t146 => (if t146 = true then (some true) else ((gain_Step.f a1).bind fun bt147 => ((gain_Quantise.f k l0 a1).bind fun bt149 => ((psalteryref19_Step.f a1).bind fun t153 => (if (wrap64 (bt147.1)) = t153 then (if ((bt147.2 == 0) != (decide (t153 > 0))) = true then (psalterylaw19_GainSteps.j0 k l0 a1 bt149.1 bt149.2 t153 true) else (if t153 = 0 then (psalterylaw19_GainSteps.j0 k l0 a1 bt149.1 bt149.2 t153 (bt147.2 != 1)) else (psalterylaw19_GainSteps.j0 k l0 a1 bt149.1 bt149.2 t153 false))) else (psalterylaw19_GainSteps.j0 k l0 a1 bt149.1 bt149.2 t153 true))))))) = some r := by rw [if_pos rfl] at H; exact H
    clear H
    have H := H1
    clear H1
    replace H := Option.bind_eq_some_iff.mp H
    obtain ⟨t146, A50, H⟩ := H
    replace H : (if t146 = true then (some true) else ((gain_Step.f a1).bind fun bt147 => ((gain_Quantise.f k l0 a1).bind fun bt149 => ((psalteryref19_Step.f a1).bind fun t153 => (if (wrap64 (bt147.1)) = t153 then (if ((bt147.2 == 0) != (decide (t153 > 0))) = true then (psalterylaw19_GainSteps.j0 k l0 a1 bt149.1 bt149.2 t153 true) else (if t153 = 0 then (psalterylaw19_GainSteps.j0 k l0 a1 bt149.1 bt149.2 t153 (bt147.2 != 1)) else (psalterylaw19_GainSteps.j0 k l0 a1 bt149.1 bt149.2 t153 false))) else (psalterylaw19_GainSteps.j0 k l0 a1 bt149.1 bt149.2 t153 true)))))) = some r := H
    have A5 := Aside0.mk A50
    clear A50
    by_cases c6 : t146 = true
    · subst c6
      have H1 : (some true) = some r := by rw [if_pos rfl] at H; exact H
      clear H
      have H := H1
      clear H1
      obtain rfl := Option.some.inj H
      go_enter Try.func7, Try.ntmps7
      go_wp2_with (first | ((with_reducible refine gate_callee (f := 28) rfl ?_); refine goesL_ (some 10) rfl rfl Try.func28 (by kernel_rfl) rfl #[] rfl (by (try simp only [List.map_toArray, List.map_cons, List.map_nil]); first | done | rfl | (simp only [List.length_drop, List.length_take]; rfl)) ?_; (with_reducible refine (psalterylaw19_alive.calls k  true _ A3.out).mono ?_); rintro e w7 ⟨rfl, hb⟩; refine ⟨_, rfl, ?_⟩; have n0_ := Aside0.mk (below_step (by repeat (first | (with_reducible first | exact HB.out | apply below_alloc | apply pw_below_drewN | apply below_drew1) | exact HB.out)) hb); clear HB; have HB := n0_; clear n0_; (try clear hb); (try clear hb2); (try clear hk); (try clear hi)) | ((with_reducible refine gate_callee (f := 29) rfl ?_); refine goesL_ (some 13) rfl rfl Try.func29 (by kernel_rfl) rfl #[.slice A0 l0.length c0, .slice none 0 0] rfl (by (try simp only [List.map_toArray, List.map_cons, List.map_nil]); first | done | rfl | (simp only [List.length_drop, List.length_take]; rfl)) ?_; (refine (psalterylaw19_far.calls _ _ l0 _ _ ([] : List Int) true _ ?side1 ?side2 ?side3 ?side4 A5.out).mono ?_); (case side1 => repeat (first | exact (Kd.C_below HR0.out HB.out) | (with_reducible refine Kd.C_alloc ?_ _) | (with_reducible refine Kd.C_drewN ?_ _) | (with_reducible refine Kd.C_drew ?_))); (case side2 => exact HC0.out); (case side3 => exact Kd.C_nil _ _); (case side4 => exact Nat.le_refl _); rintro e w' ⟨rfl, ⟨nd, rfl⟩⟩; refine ⟨_, rfl, ?_⟩))
      go_ret
      exact ⟨by first | rfl | (simp [errW_none, errW_some] <;> rfl) | (simp [*, errW_none, errW_some] <;> rfl), by repeat (first | (with_reducible first | exact HB.out | apply below_alloc | apply pw_below_drewN | apply below_drew1) | exact HB.out)⟩
    · replace c6 := Bool.eq_false_iff.mpr c6
      subst c6
      have H1 : ((gain_Step.f a1).bind fun bt147 => ((gain_Quantise.f k l0 a1).bind fun bt149 => ((psalteryref19_Step.f a1).bind fun t153 => (if (wrap64 (bt147.1)) = t153 then (if ((bt147.2 == 0) != (decide (t153 > 0))) = true then (psalterylaw19_GainSteps.j0 k l0 a1 bt149.1 bt149.2 t153 true) else (if t153 = 0 then (psalterylaw19_GainSteps.j0 k l0 a1 bt149.1 bt149.2 t153 (bt147.2 != 1)) else (psalterylaw19_GainSteps.j0 k l0 a1 bt149.1 bt149.2 t153 false))) else (psalterylaw19_GainSteps.j0 k l0 a1 bt149.1 bt149.2 t153 true))))) = some r := by rw [if_neg (show ¬ (false = true) by decide)] at H; exact H
      clear H
      have H := H1
      clear H1
      replace H := Option.bind_eq_some_iff.mp H
      obtain ⟨⟨t147, t148⟩, A80, H⟩ := H
      replace H : ((gain_Quantise.f k l0 a1).bind fun bt149 => ((psalteryref19_Step.f a1).bind fun t153 => (if (wrap64 (t147)) = t153 then (if ((t148 == 0) != (decide (t153 > 0))) = true then (psalterylaw19_GainSteps.j0 k l0 a1 bt149.1 bt149.2 t153 true) else (if t153 = 0 then (psalterylaw19_GainSteps.j0 k l0 a1 bt149.1 bt149.2 t153 (t148 != 1)) else (psalterylaw19_GainSteps.j0 k l0 a1 bt149.1 bt149.2 t153 false))) else (psalterylaw19_GainSteps.j0 k l0 a1 bt149.1 bt149.2 t153 true)))) = some r := H
      have A8 := Aside0.mk A80
      clear A80
      replace H := Option.bind_eq_some_iff.mp H
      obtain ⟨⟨t149, t150⟩, A90, H⟩ := H
      replace H : ((psalteryref19_Step.f a1).bind fun t153 => (if (wrap64 (t147)) = t153 then (if ((t148 == 0) != (decide (t153 > 0))) = true then (psalterylaw19_GainSteps.j0 k l0 a1 t149 t150 t153 true) else (if t153 = 0 then (psalterylaw19_GainSteps.j0 k l0 a1 t149 t150 t153 (t148 != 1)) else (psalterylaw19_GainSteps.j0 k l0 a1 t149 t150 t153 false))) else (psalterylaw19_GainSteps.j0 k l0 a1 t149 t150 t153 true))) = some r := H
      have A9 := Aside0.mk A90
      clear A90
      replace H := Option.bind_eq_some_iff.mp H
      obtain ⟨t153, A100, H⟩ := H
      replace H : (if (wrap64 (t147)) = t153 then (if ((t148 == 0) != (decide (t153 > 0))) = true then (psalterylaw19_GainSteps.j0 k l0 a1 t149 t150 t153 true) else (if t153 = 0 then (psalterylaw19_GainSteps.j0 k l0 a1 t149 t150 t153 (t148 != 1)) else (psalterylaw19_GainSteps.j0 k l0 a1 t149 t150 t153 false))) else (psalterylaw19_GainSteps.j0 k l0 a1 t149 t150 t153 true)) = some r := H
      have A10 := Aside0.mk A100
      clear A100
      have HC11 := Aside0.mk H
      clear H
      go_enter Try.func7, Try.ntmps7
      go_upto_region 8 with (first | ((with_reducible refine gate_callee (f := 28) rfl ?_); refine goesL_ (some 10) rfl rfl Try.func28 (by kernel_rfl) rfl #[] rfl (by (try simp only [List.map_toArray, List.map_cons, List.map_nil]); first | done | rfl | (simp only [List.length_drop, List.length_take]; rfl)) ?_; (with_reducible refine (psalterylaw19_alive.calls k  true _ A3.out).mono ?_); rintro e w12 ⟨rfl, hb⟩; refine ⟨_, rfl, ?_⟩; have n0_ := Aside0.mk (below_step (by repeat (first | (with_reducible first | exact HB.out | apply below_alloc | apply pw_below_drewN | apply below_drew1) | exact HB.out)) hb); clear HB; have HB := n0_; clear n0_; (try clear hb); (try clear hb2); (try clear hk); (try clear hi)) | ((with_reducible refine gate_callee (f := 29) rfl ?_); refine goesL_ (some 13) rfl rfl Try.func29 (by kernel_rfl) rfl #[.slice A0 l0.length c0, .slice none 0 0] rfl (by (try simp only [List.map_toArray, List.map_cons, List.map_nil]); first | done | rfl | (simp only [List.length_drop, List.length_take]; rfl)) ?_; (refine (psalterylaw19_far.calls _ _ l0 _ _ ([] : List Int) false _ ?side1 ?side2 ?side3 ?side4 A5.out).mono ?_); (case side1 => repeat (first | exact (Kd.C_below HR0.out HB.out) | (with_reducible refine Kd.C_alloc ?_ _) | (with_reducible refine Kd.C_drewN ?_ _) | (with_reducible refine Kd.C_drew ?_))); (case side2 => exact HC0.out); (case side3 => exact Kd.C_nil _ _); (case side4 => exact Nat.le_refl _); rintro e w' ⟨rfl, ⟨nd, rfl⟩⟩; refine ⟨_, rfl, ?_⟩) | ((with_reducible refine gate_callee (f := 30) rfl ?_); refine goesL_ (some 16) rfl rfl Try.func30 (by kernel_rfl) rfl #[.int .i64 a1] rfl (by (try simp only [List.map_toArray, List.map_cons, List.map_nil]); first | done | rfl | (simp only [List.length_drop, List.length_take]; rfl)) ?_; (with_reducible refine (gain_Step.calls a1 t147 t148 _ A8.out).mono ?_); rintro e w' ⟨rfl, ⟨nd, rfl⟩⟩; refine ⟨_, rfl, ?_⟩) | ((with_reducible refine gate_callee (f := 31) rfl ?_); refine goesL_ (some 22) rfl rfl Try.func31 (by kernel_rfl) rfl #[.slice A0 l0.length c0, .int .i64 a1] rfl (by (try simp only [List.map_toArray, List.map_cons, List.map_nil]); first | done | rfl | (simp only [List.length_drop, List.length_take]; rfl)) ?_; (with_reducible refine (gain_Quantise.calls k _ _ l0 a1 t149 t150 _ ?side1 ?side2 A9.out).mono ?_); (case side1 => repeat (first | exact (Kd.C_below HR0.out (by repeat (first | (with_reducible first | exact HB.out | apply below_alloc | apply pw_below_drewN | apply below_drew1) | exact HB.out))) | (with_reducible refine Kd.C_alloc ?_ _) | (with_reducible refine Kd.C_drewN ?_ _) | (with_reducible refine Kd.C_drew ?_))); (case side2 => exact HC0.out); rintro e w13 ⟨v151, rfl, ho0, hb⟩; refine ⟨_, rfl, ?_⟩; have n0_ := Aside0.mk (Kd.R_lower ho0 (below_size (by repeat (first | (with_reducible first | exact HB.out | apply below_alloc | apply pw_below_drewN | apply below_drew1) | exact HB.out)))); have n1_ := Aside0.mk (below_step (by repeat (first | (with_reducible first | exact HB.out | apply below_alloc | apply pw_below_drewN | apply below_drew1) | exact HB.out)) hb); clear HB; have HO152 := n0_; have HB := n1_; clear n0_ n1_; (try clear hb); (try clear hb2); (try clear hk); (try clear hi); (try clear ho0)) | ((with_reducible refine gate_callee (f := 32) rfl ?_); refine goesL_ (some 26) rfl rfl Try.func32 (by kernel_rfl) rfl #[.int .i64 a1] rfl (by (try simp only [List.map_toArray, List.map_cons, List.map_nil]); first | done | rfl | (simp only [List.length_drop, List.length_take]; rfl)) ?_; (with_reducible refine (psalteryref19_Step.calls a1 t153 _ A10.out).mono ?_); rintro e w14 ⟨rfl, hb⟩; refine ⟨_, rfl, ?_⟩; have n0_ := Aside0.mk (Kd.R_below (by (with_reducible repeat (first | apply Kd.R_alloc | apply Kd.R_drewN | apply Kd.R_drew)); exact HO152.out) hb); have n1_ := Aside0.mk (below_step (by repeat (first | (with_reducible first | exact HB.out | apply below_alloc | apply pw_below_drewN | apply below_drew1) | exact HB.out)) hb); clear HO152; clear HB; have HO152 := n0_; have HB := n1_; clear n0_ n1_; (try clear hb); (try clear hb2); (try clear hk); (try clear hi)))
      (try simp only [Act.put, List.setIfInBounds_toArray, List.set_cons_zero, List.set_cons_succ])
      go_cut [45] (fun v45 wc => ∃ (kq : Nat) (x45_10 : Bool), v45 = .bool x45_10 ∧ Aside0 (psalterylaw19_GainSteps.j0 kq l0 a1 t149 t150 t153 x45_10 = some r) ∧ Aside0 (kq ≤ k) ∧ Aside0 (Kd.R (Kd.int .i64) 3 wc w.heap.size (fun _ => True) v151 t149) ∧ Aside0 (Below w.heap.size w wc))
      case first =>
        have H := HC11.out
        clear HC11
        by_cases c15 : (wrap64 (t147)) = t153
        · rw [if_pos c15] at H
          have c15b0 : ((wrap64 (t147)) == t153) = true := beq_iff_eq.mpr c15
          have c15b1 : ((wrap64 (t147)) != t153) = false := bne_eq_false_iff_eq.mpr c15
          clear c15
          (first | rw [c15b0] | (simp only [i64_w, i32_w]; rw [c15b0]) | skip)
          by_cases c16 : ((t148 == 0) != (decide (t153 > 0))) = true
          · rw [if_pos c16] at H
            have c16b0 : ((t148 == 0) != (decide (t153 > 0))) = true := c16
            (try (have c16b1 : decide ((t148 == 0) = (decide (t153 > 0))) = false := by simpa using c16))
            (try (have c16b2 : ((t148 == 0) == (decide (t153 > 0))) = false := by simpa using c16))
            (try (have c16b3 : ¬ ((t148 == 0) = (decide (t153 > 0))) := by simpa using c16))
            clear c16
            have H' := Aside0.mk H
            clear H
            go_wp2
            go_meet
            case rel => exact ⟨_, (true), (by first | rfl | (simp; done) | (simp [*]; done)), H', ⟨by first | omega | exact Nat.le_refl _⟩, ⟨by (with_reducible repeat (first | apply Kd.R_alloc | apply Kd.R_drewN | apply Kd.R_drew)); exact HO152.out⟩, ⟨by repeat (first | (with_reducible first | exact HB.out | apply below_alloc | apply pw_below_drewN | apply below_drew1) | exact HB.out)⟩⟩
          · rw [if_neg c16] at H
            have c16b0 : ((t148 == 0) != (decide (t153 > 0))) = false := by simpa using c16
            (try (have c16b1 : decide ((t148 == 0) = (decide (t153 > 0))) = true := by simpa using c16))
            (try (have c16b2 : ((t148 == 0) == (decide (t153 > 0))) = true := by simpa using c16))
            clear c16
            by_cases c17 : t153 = 0
            · rw [if_pos c17] at H
              have c17b0 : (t153 == 0) = true := beq_iff_eq.mpr c17
              have c17b1 : (t153 != 0) = false := bne_eq_false_iff_eq.mpr c17
              clear c17
              have H' := Aside0.mk H
              clear H
              go_wp2
              go_meet
              case rel => exact ⟨_, ((t148 != 1)), (by first | rfl | (simp; done) | (simp [*]; done)), H', ⟨by first | omega | exact Nat.le_refl _⟩, ⟨by (with_reducible repeat (first | apply Kd.R_alloc | apply Kd.R_drewN | apply Kd.R_drew)); exact HO152.out⟩, ⟨by repeat (first | (with_reducible first | exact HB.out | apply below_alloc | apply pw_below_drewN | apply below_drew1) | exact HB.out)⟩⟩
            · rw [if_neg c17] at H
              have c17b0 : (t153 == 0) = false := beq_eq_false_iff_ne.mpr c17
              have c17b1 : (t153 != 0) = true := bne_iff_ne.mpr c17
              have H' := Aside0.mk H
              clear H
              go_wp2
              go_meet
              case rel => exact ⟨_, (false), (by first | rfl | (simp; done) | (simp [*]; done)), H', ⟨by first | omega | exact Nat.le_refl _⟩, ⟨by (with_reducible repeat (first | apply Kd.R_alloc | apply Kd.R_drewN | apply Kd.R_drew)); exact HO152.out⟩, ⟨by repeat (first | (with_reducible first | exact HB.out | apply below_alloc | apply pw_below_drewN | apply below_drew1) | exact HB.out)⟩⟩
        · rw [if_neg c15] at H
          have c15b0 : ((wrap64 (t147)) == t153) = false := beq_eq_false_iff_ne.mpr c15
          have c15b1 : ((wrap64 (t147)) != t153) = true := bne_iff_ne.mpr c15
          (first | rw [c15b0] | (simp only [i64_w, i32_w]; rw [c15b0]) | skip)
          have H' := Aside0.mk H
          clear H
          go_wp2
          go_meet
          case rel => exact ⟨_, (true), (by first | rfl | (simp; done) | (simp [*]; done)), H', ⟨by first | omega | exact Nat.le_refl _⟩, ⟨by (with_reducible repeat (first | apply Kd.R_alloc | apply Kd.R_drewN | apply Kd.R_drew)); exact HO152.out⟩, ⟨by repeat (first | (with_reducible first | exact HB.out | apply below_alloc | apply pw_below_drewN | apply below_drew1) | exact HB.out)⟩⟩
      case rest =>
        clear HC11
        try clear c1
        try clear c2
        try clear p2
        try clear c3
        try clear c4
        try clear c6
        try clear p6
        try clear c7
        try clear c15
        try clear c15b0
        try clear c15b1
        try clear c16
        try clear c16b0
        try clear c16b1
        try clear c16b2
        try clear c17
        try clear c17b0
        try clear c17b1
        obtain ⟨kq, x45_10, rfl, HA, HJ10, HO_7, HB⟩ := hcut
        cases kq with
        | zero => exact absurd HA.out (by simp [psalterylaw19_GainSteps.j0])
        | succ kj10 =>
          have H := HA.out
          clear HA
          simp only [psalterylaw19_GainSteps.j0] at H
          by_cases c18 : x45_10 = true
          · subst c18
            have H1 : (some false) = some r := by rw [if_pos rfl] at H; exact H
            clear H
            have H := H1
            clear H1
            obtain rfl := Option.some.inj H
            go_wp2
            go_ret
            exact ⟨by first | rfl | (simp [errW_none, errW_some] <;> rfl) | (simp [*, errW_none, errW_some] <;> rfl), by repeat (first | (with_reducible first | exact HB.out | apply below_alloc | apply pw_below_drewN | apply below_drew1) | exact HB.out)⟩
          · replace c18 := Bool.eq_false_iff.mpr c18
            subst c18
            have H1 : (if (l0.length : Int) > 120 then (if (t149.length : Int) = 0 then (some (t150 == 2)) else (some false)) else (if t153 = 0 then (if (t149.length : Int) = 0 then (some (t150 == 1)) else (some false)) else (if t150 = 0 then ((psalteryref19_Quantise.f kj10 l0 a1).bind fun t154 => ((psalteryref19_Same.f kj10 t149 t154).bind fun t157 => (some t157))) else (some false)))) = some r := by rw [if_neg (show ¬ (false = true) by decide)] at H; exact H
            clear H
            have H := H1
            clear H1
            by_cases c19 : (l0.length : Int) > 120
            · rw [if_pos c19] at H
              have c19b0 : decide (120 < (l0.length : Int)) = true := decide_eq_true c19
              have c19b1 : decide (120 < l0.length) = true := decide_eq_true (by omega)
              clear c19
              by_cases c20 : (t149.length : Int) = 0
              · rw [if_pos c20] at H
                have c20b0 : ((t149.length : Int) == 0) = true := beq_iff_eq.mpr c20
                have c20b1 : ((t149.length : Int) != 0) = false := bne_eq_false_iff_eq.mpr c20
                clear c20
                obtain rfl := Option.some.inj H
                obtain ⟨Ao21, co21, eo21⟩ := Kd.R_slice HO_7.out
                subst eo21
                go_wp2
                go_ret
                exact ⟨by first | rfl | (simp [errW_none, errW_some] <;> rfl) | (simp [*, errW_none, errW_some] <;> rfl), by repeat (first | (with_reducible first | exact HB.out | apply below_alloc | apply pw_below_drewN | apply below_drew1) | exact HB.out)⟩
              · rw [if_neg c20] at H
                have c20b0 : ((t149.length : Int) == 0) = false := beq_eq_false_iff_ne.mpr c20
                have c20b1 : ((t149.length : Int) != 0) = true := bne_iff_ne.mpr c20
                have c20b2 : ¬ (t149 = []) := fun h_ => c20 (by rw [h_]; rfl)
                obtain rfl := Option.some.inj H
                obtain ⟨Ao22, co22, eo22⟩ := Kd.R_slice HO_7.out
                subst eo22
                go_wp2
                go_ret
                exact ⟨by first | rfl | (simp [errW_none, errW_some] <;> rfl) | (simp [*, errW_none, errW_some] <;> rfl), by repeat (first | (with_reducible first | exact HB.out | apply below_alloc | apply pw_below_drewN | apply below_drew1) | exact HB.out)⟩
            · rw [if_neg c19] at H
              have c19b0 : decide (120 < (l0.length : Int)) = false := decide_eq_false c19
              have c19b1 : decide (120 < l0.length) = false := decide_eq_false (by omega)
              clear c19
              by_cases c23 : t153 = 0
              · rw [if_pos c23] at H
                have c23b0 : (t153 == 0) = true := beq_iff_eq.mpr c23
                have c23b1 : (t153 != 0) = false := bne_eq_false_iff_eq.mpr c23
                clear c23
                by_cases c24 : (t149.length : Int) = 0
                · rw [if_pos c24] at H
                  have c24b0 : ((t149.length : Int) == 0) = true := beq_iff_eq.mpr c24
                  have c24b1 : ((t149.length : Int) != 0) = false := bne_eq_false_iff_eq.mpr c24
                  clear c24
                  obtain rfl := Option.some.inj H
                  obtain ⟨Ao25, co25, eo25⟩ := Kd.R_slice HO_7.out
                  subst eo25
                  go_wp2
                  go_ret
                  exact ⟨by first | rfl | (simp [errW_none, errW_some] <;> rfl) | (simp [*, errW_none, errW_some] <;> rfl), by repeat (first | (with_reducible first | exact HB.out | apply below_alloc | apply pw_below_drewN | apply below_drew1) | exact HB.out)⟩
                · rw [if_neg c24] at H
                  have c24b0 : ((t149.length : Int) == 0) = false := beq_eq_false_iff_ne.mpr c24
                  have c24b1 : ((t149.length : Int) != 0) = true := bne_iff_ne.mpr c24
                  have c24b2 : ¬ (t149 = []) := fun h_ => c24 (by rw [h_]; rfl)
                  obtain rfl := Option.some.inj H
                  obtain ⟨Ao26, co26, eo26⟩ := Kd.R_slice HO_7.out
                  subst eo26
                  go_wp2
                  go_ret
                  exact ⟨by first | rfl | (simp [errW_none, errW_some] <;> rfl) | (simp [*, errW_none, errW_some] <;> rfl), by repeat (first | (with_reducible first | exact HB.out | apply below_alloc | apply pw_below_drewN | apply below_drew1) | exact HB.out)⟩
              · rw [if_neg c23] at H
                have c23b0 : (t153 == 0) = false := beq_eq_false_iff_ne.mpr c23
                have c23b1 : (t153 != 0) = true := bne_iff_ne.mpr c23
                by_cases c27 : t150 = 0
                · rw [if_pos c27] at H
                  have c27b0 : (t150 == 0) = true := beq_iff_eq.mpr c27
                  have c27b1 : (t150 != 0) = false := bne_eq_false_iff_eq.mpr c27
                  clear c27
                  replace H := Option.bind_eq_some_iff.mp H
                  obtain ⟨t154, A280, H⟩ := H
                  replace H : ((psalteryref19_Same.f kj10 t149 t154).bind fun t157 => (some t157)) = some r := H
                  have A28 := Aside0.mk A280
                  clear A280
                  replace H := Option.bind_eq_some_iff.mp H
                  obtain ⟨t157, A290, H⟩ := H
                  replace H : (some t157) = some r := H
                  have A29 := Aside0.mk A290
                  clear A290
                  obtain rfl := Option.some.inj H
                  go_wp2_with (first | (go_at_call 34; (with_reducible refine (psalteryref19_Quantise.calls kj10 _ _ l0 a1 t154 _ ?side1 ?side2 A28.out).mono ?_); (case side1 => repeat (first | exact (Kd.C_below HR0.out HB.out) | (with_reducible refine Kd.C_alloc ?_ _) | (with_reducible refine Kd.C_drewN ?_ _) | (with_reducible refine Kd.C_drew ?_))); (case side2 => exact HC0.out); rintro e w30 ⟨v155, rfl, ho0, hb⟩; have n0_ := Aside0.mk (Kd.R_elder' (by (with_reducible repeat (first | apply Kd.R_alloc | apply Kd.R_drewN | apply Kd.R_drew)); exact HO_7.out) (Kd.R_base ho0) hb); have n1_ := Aside0.mk (Kd.R_lower (Kd.R_new' ho0 (Kd.R_lt (by (with_reducible repeat (first | apply Kd.R_alloc | apply Kd.R_drewN | apply Kd.R_drew)); exact HO_7.out))) (below_size (by repeat (first | (with_reducible first | exact HB.out | apply below_alloc | apply pw_below_drewN | apply below_drew1) | exact HB.out)))); have n2_ := Aside0.mk (below_step (by repeat (first | (with_reducible first | exact HB.out | apply below_alloc | apply pw_below_drewN | apply below_drew1) | exact HB.out)) hb); clear HO_7; clear HB; have HO_7 := n0_; have HO156 := n1_; have HB := n2_; clear n0_ n1_ n2_; (try clear hb); (try clear hb2); (try clear hk); (try clear hi); (try clear ho0); obtain ⟨Ao31, co31, eo31⟩ := Kd.R_slice HO_7.out; subst eo31; obtain ⟨Ao32, co32, eo32⟩ := Kd.R_slice HO156.out; subst eo32) | (go_at_call 33; (with_reducible refine (psalteryref19_Same.calls kj10 _ _ t149 _ _ t154 t157 _ ?side1 ?side2 ?side3 ?side4 A29.out).mono ?_); (case side1 => repeat (first | exact (Kd.R_reads' HO_7.out).2.2 | (with_reducible refine Kd.C_alloc ?_ _) | (with_reducible refine Kd.C_drewN ?_ _) | (with_reducible refine Kd.C_drew ?_))); (case side2 => exact (Kd.R_reads' HO_7.out).2.1); (case side3 => repeat (first | exact (Kd.R_reads' HO156.out).2.2 | (with_reducible refine Kd.C_alloc ?_ _) | (with_reducible refine Kd.C_drewN ?_ _) | (with_reducible refine Kd.C_drew ?_))); (case side4 => exact (Kd.R_reads' HO156.out).2.1); rintro e w' ⟨rfl, ⟨nd, rfl⟩⟩))
                  go_ret
                  exact ⟨by first | rfl | (simp [errW_none, errW_some] <;> rfl) | (simp [*, errW_none, errW_some] <;> rfl), by repeat (first | (with_reducible first | exact HB.out | apply below_alloc | apply pw_below_drewN | apply below_drew1) | exact HB.out)⟩
                · rw [if_neg c27] at H
                  have c27b0 : (t150 == 0) = false := beq_eq_false_iff_ne.mpr c27
                  have c27b1 : (t150 != 0) = true := bne_iff_ne.mpr c27
                  obtain rfl := Option.some.inj H
                  go_wp2
                  go_ret
                  exact ⟨by first | rfl | (simp [errW_none, errW_some] <;> rfl) | (simp [*, errW_none, errW_some] <;> rfl), by repeat (first | (with_reducible first | exact HB.out | apply below_alloc | apply pw_below_drewN | apply below_drew1) | exact HB.out)⟩
  · replace c4 := Bool.eq_false_iff.mpr c4
    subst c4
    have H1 : (some false) = some r := by rw [if_neg (show ¬ (false = true) by decide)] at H; exact H
    clear H
    have H := H1
    clear H1
    obtain rfl := Option.some.inj H
    go_enter Try.func7, Try.ntmps7
    go_wp2_with (first | ((with_reducible refine gate_callee (f := 28) rfl ?_); refine goesL_ (some 10) rfl rfl Try.func28 (by kernel_rfl) rfl #[] rfl (by (try simp only [List.map_toArray, List.map_cons, List.map_nil]); first | done | rfl | (simp only [List.length_drop, List.length_take]; rfl)) ?_; (with_reducible refine (psalterylaw19_alive.calls k  false _ A3.out).mono ?_); rintro e w33 ⟨rfl, hb⟩; refine ⟨_, rfl, ?_⟩; have n0_ := Aside0.mk (below_step (by repeat (first | (with_reducible first | exact HB.out | apply below_alloc | apply pw_below_drewN | apply below_drew1) | exact HB.out)) hb); clear HB; have HB := n0_; clear n0_; (try clear hb); (try clear hb2); (try clear hk); (try clear hi)))
    go_ret
    exact ⟨by first | rfl | (simp [errW_none, errW_some] <;> rfl) | (simp [*, errW_none, errW_some] <;> rfl), by repeat (first | (with_reducible first | exact HB.out | apply below_alloc | apply pw_below_drewN | apply below_drew1) | exact HB.out)⟩

/-- THE ONE PURE STATEMENT of psalterylaw19_GainSteps: yours. -/
def psalterylaw19_GainSteps.Pure : Prop := ∀ (l0 : List Int) (a1 : Int), l0.length ≤ maxLen → l0.length * 4 ≤ 140737488351232 → (∀ x ∈ l0, (Lit.int .i32 x).wf = true) → (Lit.int .i64 a1).wf = true → ∃ k, psalterylaw19_GainSteps.f k l0 a1 = some true
theorem psalterylaw19_GainSteps.walk (P : psalterylaw19_GainSteps.Pure) (a0 : Option Addr) (len0 cap0 : Nat) (z0 : List Int) (a1 : Int) (w : World) (w0 : (a0 = none ∧ len0 = 0 ∧ cap0 = 0 ∧ z0 = []) ∨ ∃ x, a0 = some x ∧ len0 ≤ cap0 ∧ cap0 ≤ maxLen ∧ z0.length = cap0 ∧ (∀ i, i < z0.length → w.cell? (x.add i) = some (.int .i32 (z0.getD i 0))) ∧ ∀ n ∈ z0, (Lit.int .i32 n).wf = true) (y0 : len0 * 4 ≤ 140737488351232) (w1 : (Lit.int .i64 a1).wf = true) :
    Calls Try.prog 7 #[.slice a0 len0 cap0, .int .i64 a1] w fun e w' => e = .returned (.bool true) ∧ Below w.heap.size w w' := by
  obtain ⟨l0, rfl, hr0, hm0, hw0, hc0⟩ := ReadsInt.ofRowC w0
  obtain ⟨k, h⟩ := P l0 a1 hm0 y0 hw0 w1
  refine (psalterylaw19_GainSteps.calls k _ _ l0 a1 true w (Kd.C_of_reads (d := (0 : Int)) (h1 := fun _ => rfl) hr0) hc0 h).mono ?_
  rintro e w' ⟨rfl, hd⟩
  exact ⟨rfl, hd⟩

end Go.Proofs.Ytojlgjdebokelaa.PGainSteps
