-- Written by wip/myprint.py, a program of this session's, over the kit's print and this session's given texts. Not trusted: Lean checks it.
import Derived.Test.YtojlgjdebokelabPLib1x0
namespace Go.Proofs.Ytojlgjdebokelab.PLib1
open Go.RowKit Go.Proofs.YtojlgjdebokelabW.PrintWords Go.Proofs.YtojlgjdebokelabW.PrintLast Go.Proofs.YtojlgjdebokelabW.PrintMore
attribute [local go_sem] max2_int min2_int max_two min_two max_three min_three max_four min_four   -- for this text's walks alone
set_option linter.unusedVariables false
set_option linter.unusedSimpArgs false

-- NOT PRINTED: function 87 (psalteryref01_down)

/-! ### psalteryref01_Round: function 52 (this session's text) -/
def psalteryref01_Round.f (a0 : Int) (a1 : Int) : Option (Int) := if -9223372036854775808 ≤ a0 then (if a0 ≤ 9223372036854775807 then (some (Go.Proofs.YtojlgjdebokelabH.rnd a0 a1)) else none) else none
theorem psalteryref01_Round.calls (a0 : Int) (a1 : Int) (r : Int) (w : World) (h : psalteryref01_Round.f a0 a1 = some r) :
    Calls Try.prog 52 #[.int .i64 a0, .int .i64 a1] w fun e w' => e = .returned (.int .i64 r) ∧ Drawn0 w w' := by
  unfold psalteryref01_Round.f at h
  by_cases h0 : -9223372036854775808 ≤ a0
  · rw [if_pos h0] at h
    by_cases h1 : a0 ≤ 9223372036854775807
    · rw [if_pos h1] at h
      obtain rfl := Option.some.inj h
      exact (Go.Proofs.YtojlgjdebokelabH.rnd_any a0 a1 w ⟨h0, h1⟩).mono fun e w' hh => ⟨hh.1, by rw [← hh.2]; exact Drawn0.refl w⟩
    · rw [if_neg h1] at h; cases h
  · rw [if_neg h0] at h; cases h

/-! ### psalteryref02_roots: function 98 -/
def psalteryref02_roots.f  : Option (List Int) := some (([1518500249, 1276901416, 1170923761, 1121280435, 1097253708, 1085434105, 1079572135, 1076653033] : List Int))
set_option maxHeartbeats 8000000 in
set_option maxRecDepth 100000 in
theorem psalteryref02_roots.calls  (r : List Int) (w : World) (h : psalteryref02_roots.f  = some r) :
    Calls Try.prog 98 #[] w fun e w' => ∃ v0_ : Value, e = .returned (v0_) ∧ Kd.R (Kd.int .u64) 76 w' w.heap.size (fun _ => True) v0_ r ∧ Below w.heap.size w w' := by
  have HB := Aside0.mk (Below.refl w.heap.size w)
  have H : (some (([1518500249, 1276901416, 1170923761, 1121280435, 1097253708, 1085434105, 1079572135, 1076653033] : List Int))) = some r := h
  clear h
  obtain ⟨y101, hy101⟩ : ∃ y_ : List Int, y_ = (([1518500249, 1276901416, 1170923761, 1121280435, 1097253708, 1085434105, 1079572135, 1076653033] : List Int)) := ⟨_, rfl⟩
  replace H : (some y101) = some r := by first | (rw [hy101]; with_reducible exact H) | (have H2_ := (Option.bind_some _ _).symm.trans H; rw [hy101]; with_reducible exact H2_) | (have H2_ := (Option.bind_some _ _).symm.trans H; with_reducible exact H2_) | with_reducible exact H | (rw [hy101]; exact H) | exact H
  have Ny101 := Aside0.mk hy101
  clear hy101
  obtain rfl := Option.some.inj H
  go_enter Try.func98, Try.ntmps98
  go_wp2_with (first | ((with_reducible refine gate_dst (N := 1) rfl ?_); refine Kd.R_lit (Kd.int .u64) _ 76 ?hg (N := 1) ?hd (xs := ([1518500249, 1276901416, 1170923761, 1121280435, 1097253708, 1085434105, 1079572135, 1076653033] : List Int)) (inner := [.int .u64 1518500249, .int .u64 1276901416, .int .u64 1170923761, .int .u64 1121280435, .int .u64 1097253708, .int .u64 1085434105, .int .u64 1079572135, .int .u64 1076653033]) (ok := fun _ => True) (okp := fun _ => True) ?hr ?hp (fun _ hk => hk) trivial (Below.refl _ _) (Nat.le_refl _) (by simp) ?_; (case hd => rfl); (case hg => rfl); (case hr => first | (go_simp; done) | (go_simp; rfl)); (case hp => exact (Reps.one (show Kd.M (Kd.int .u64) _ _ _ 1518500249 [.int .u64 1518500249] from rfl) (Reps.one (show Kd.M (Kd.int .u64) _ _ _ 1276901416 [.int .u64 1276901416] from rfl) (Reps.one (show Kd.M (Kd.int .u64) _ _ _ 1170923761 [.int .u64 1170923761] from rfl) (Reps.one (show Kd.M (Kd.int .u64) _ _ _ 1121280435 [.int .u64 1121280435] from rfl) (Reps.one (show Kd.M (Kd.int .u64) _ _ _ 1097253708 [.int .u64 1097253708] from rfl) (Reps.one (show Kd.M (Kd.int .u64) _ _ _ 1085434105 [.int .u64 1085434105] from rfl) (Reps.one (show Kd.M (Kd.int .u64) _ _ _ 1079572135 [.int .u64 1079572135] from rfl) (Reps.one (show Kd.M (Kd.int .u64) _ _ _ 1076653033 [.int .u64 1076653033] from rfl) (Reps.none _ _)))))))))); intro v102 w1 ho2 hb hg_ hnew_; clear hg_ hnew_; (first | rw [← Ny101.out] at ho2 | (simp only [Int.reduceToNat] at ho2; rw [← Ny101.out] at ho2)); have n0_ := Aside0.mk (Kd.R_lower ho2 (below_size (by repeat (first | (with_reducible first | exact HB.out | apply below_alloc | apply pw_below_drewN | apply below_drew1) | exact HB.out)))); have n1_ := Aside0.mk (below_step (by repeat (first | (with_reducible first | exact HB.out | apply below_alloc | apply pw_below_drewN | apply below_drew1) | exact HB.out)) hb); clear HB; have HO103 := n0_; have HB := n1_; clear n0_ n1_; clear hb ho2))
  go_ret
  exact ⟨_, by first | rfl | (simp [errW_none, errW_some] <;> rfl) | (simp [*, errW_none, errW_some] <;> rfl), by (with_reducible repeat (first | apply Kd.R_alloc | apply Kd.R_drewN | apply Kd.R_drew)); exact HO103.out, by repeat (first | (with_reducible first | exact HB.out | apply below_alloc | apply pw_below_drewN | apply below_drew1) | exact HB.out)⟩

/-! ### psalteryref02_Exp: function 73 -/
mutual
def psalteryref02_Exp.j0 : Nat → Int → Bool → Option (Int × Int)
  | 0, _, _ => none
  | k + 1, x0, x15 => if x15 = true then (some (0, 1)) else ((psalteryref02_roots.f).bind fun t104 => (psalteryref02_Exp.l0 k (Int.tmod (wrap64 ((wrap64 (x0)) + 4096)) 256) (wrap64 ((wrap64 (Int.tdiv (wrap64 ((wrap64 (x0)) + 4096)) 256)) - 16)) 1073741824 t104 128 0))
def psalteryref02_Exp.l0 : Nat → Int → Int → Int → List Int → Int → Int → Option (Int × Int)
  | 0, _, _, _, _, _, _ => none
  | k + 1, x4, x5, x6, x7, x8, x9 => if x9 < 8 then (if x4 ≥ x8 then (if 0 ≤ x9 then (if x9 < (x7.length : Int) then (psalteryref02_Exp.l0 k (wrap64 (x4 - x8)) x5 (IntKind.u64.wrap (Int.tdiv (IntKind.u64.wrap (x6 * (rd x7 x9))) 1073741824)) x7 (wrap64 (Int.tdiv x8 2)) (wrap64 (x9 + 1))) else (none)) else (none)) else (psalteryref02_Exp.l0 k x4 x5 x6 x7 (wrap64 (Int.tdiv x8 2)) (wrap64 (x9 + 1)))) else (psalteryref02_Exp.l1 k x5 x6)
def psalteryref02_Exp.l1 : Nat → Int → Int → Option (Int × Int)
  | 0, _, _ => none
  | k + 1, x5, x6 => if x5 > 14 then (psalteryref02_Exp.l1 k (wrap64 (x5 - 1)) (IntKind.u64.wrap (x6 * 2))) else ((psalteryref01_Round.f (wrap64 (x6)) (wrap64 (14 - x5))).bind fun t108 => (some (IntKind.u64.wrap (t108), 0)))
end
def psalteryref02_Exp.f (k : Nat) (a0 : Int) : Option (Int × Int) := if a0 < (-4096) then (psalteryref02_Exp.j0 k a0 true) else (psalteryref02_Exp.j0 k a0 (decide (a0 > 7680)))
theorem psalteryref02_Exp.mono_l : ∀ k, (∀ y0 y1, LeO (psalteryref02_Exp.j0 k y0 y1) (psalteryref02_Exp.j0 (k + 1) y0 y1)) ∧ (∀ y0 y1 y2 y3 y4 y5, LeO (psalteryref02_Exp.l0 k y0 y1 y2 y3 y4 y5) (psalteryref02_Exp.l0 (k + 1) y0 y1 y2 y3 y4 y5)) ∧ (∀ y0 y1, LeO (psalteryref02_Exp.l1 k y0 y1) (psalteryref02_Exp.l1 (k + 1) y0 y1))
  | 0 => ⟨fun _ _ r h => by simp [psalteryref02_Exp.j0] at h, fun _ _ _ _ _ _ r h => by simp [psalteryref02_Exp.l0] at h, fun _ _ r h => by simp [psalteryref02_Exp.l1] at h⟩
  | k + 1 => by
    obtain ⟨ih0, ih1, ih2⟩ := psalteryref02_Exp.mono_l k
    refine ⟨?_, ?_, ?_⟩
    · intro y0 y1
      unfold psalteryref02_Exp.j0
      repeat' first
      | (with_reducible exact ih0 _ _)
      | (with_reducible exact ih1 _ _ _ _ _ _)
      | (with_reducible exact ih2 _ _)
      | (with_reducible exact LeO.refl _)
      | (with_reducible exact LeO.none _)
      | (with_reducible refine LeO.ite ?_ ?_)
      | (with_reducible refine LeO.bind ?_ (fun _ => ?_))
      | exact ih0 _ _
      | exact ih1 _ _ _ _ _ _
      | exact ih2 _ _
      | exact LeO.none _
      | refine LeO.ite ?_ ?_
      | refine LeO.bind ?_ (fun _ => ?_)
    · intro y0 y1 y2 y3 y4 y5
      unfold psalteryref02_Exp.l0
      repeat' first
      | (with_reducible exact ih0 _ _)
      | (with_reducible exact ih1 _ _ _ _ _ _)
      | (with_reducible exact ih2 _ _)
      | (with_reducible exact LeO.refl _)
      | (with_reducible exact LeO.none _)
      | (with_reducible refine LeO.ite ?_ ?_)
      | (with_reducible refine LeO.bind ?_ (fun _ => ?_))
      | exact ih0 _ _
      | exact ih1 _ _ _ _ _ _
      | exact ih2 _ _
      | exact LeO.none _
      | refine LeO.ite ?_ ?_
      | refine LeO.bind ?_ (fun _ => ?_)
    · intro y0 y1
      unfold psalteryref02_Exp.l1
      repeat' first
      | (with_reducible exact ih0 _ _)
      | (with_reducible exact ih1 _ _ _ _ _ _)
      | (with_reducible exact ih2 _ _)
      | (with_reducible exact LeO.refl _)
      | (with_reducible exact LeO.none _)
      | (with_reducible refine LeO.ite ?_ ?_)
      | (with_reducible refine LeO.bind ?_ (fun _ => ?_))
      | exact ih0 _ _
      | exact ih1 _ _ _ _ _ _
      | exact ih2 _ _
      | exact LeO.none _
      | refine LeO.ite ?_ ?_
      | refine LeO.bind ?_ (fun _ => ?_)
theorem psalteryref02_Exp.mono : ∀ a0 k, LeO (psalteryref02_Exp.f k a0) (psalteryref02_Exp.f (k + 1) a0) := by
  intro a0 k
  obtain ⟨ih0, ih1, ih2⟩ := psalteryref02_Exp.mono_l k
  unfold psalteryref02_Exp.f
  repeat' first
      | (with_reducible exact ih0 _ _)
      | (with_reducible exact ih1 _ _ _ _ _ _)
      | (with_reducible exact ih2 _ _)
      | (with_reducible exact LeO.refl _)
      | (with_reducible exact LeO.none _)
      | (with_reducible refine LeO.ite ?_ ?_)
      | (with_reducible refine LeO.bind ?_ (fun _ => ?_))
      | exact ih0 _ _
      | exact ih1 _ _ _ _ _ _
      | exact ih2 _ _
      | exact LeO.none _
      | refine LeO.ite ?_ ?_
      | refine LeO.bind ?_ (fun _ => ?_)
set_option maxHeartbeats 8000000 in
set_option maxRecDepth 100000 in
theorem psalteryref02_Exp.calls (k : Nat) (a0 : Int) (r1 : Int) (r2 : Int) (w : World) (h : psalteryref02_Exp.f k a0 = some (r1, r2)) :
    Calls Try.prog 73 #[.int .i32 a0] w fun e w' => e = .returned (.tuple #[.int .u64 r1, .int .i64 r2]) ∧ Below w.heap.size w w' := by
  have HB := Aside0.mk (Below.refl w.heap.size w)
  have H : (if a0 < (-4096) then (psalteryref02_Exp.j0 k a0 true) else (psalteryref02_Exp.j0 k a0 (decide (a0 > 7680)))) = some (r1, r2) := h
  clear h
  have HC2 := Aside0.mk H
  clear H
  go_enter Try.func73, Try.ntmps73
  go_upto_region 1 with (fail)
  go_cut [15] (fun v15 wc => ∃ (kq : Nat) (x15_1 : Bool), v15 = .bool x15_1 ∧ Aside0 (psalteryref02_Exp.j0 kq a0 x15_1 = some (r1, r2)) ∧ Aside0 (kq ≤ k) ∧ Aside0 (Below w.heap.size w wc))
  case first =>
    have H := HC2.out
    clear HC2
    by_cases c3 : a0 < (-4096)
    · rw [if_pos c3] at H
      have c3b0 : decide (a0 < (-4096)) = true := decide_eq_true c3
      clear c3
      (first | rw [c3b0] | (simp only [i64_w, i32_w]; rw [c3b0]) | skip)
      have H' := Aside0.mk H
      clear H
      go_wp2
      go_meet
      case rel => exact ⟨_, (true), (by first | rfl | (simp; done) | (simp [*]; done)), H', ⟨by first | omega | exact Nat.le_refl _⟩, ⟨by repeat (first | (with_reducible first | exact HB.out | apply below_alloc | apply pw_below_drewN | apply below_drew1) | exact HB.out)⟩⟩
    · rw [if_neg c3] at H
      have c3b0 : decide (a0 < (-4096)) = false := decide_eq_false c3
      clear c3
      (first | rw [c3b0] | (simp only [i64_w, i32_w]; rw [c3b0]) | skip)
      have H' := Aside0.mk H
      clear H
      go_wp2
      go_meet
      case rel => exact ⟨_, (decide (a0 > 7680)), (by first | rfl | (simp; done) | (simp [*]; done)), H', ⟨by first | omega | exact Nat.le_refl _⟩, ⟨by repeat (first | (with_reducible first | exact HB.out | apply below_alloc | apply pw_below_drewN | apply below_drew1) | exact HB.out)⟩⟩
  case rest =>
    clear HC2
    try clear p2
    try clear c3
    try clear c3b0
    obtain ⟨kq, x15_1, rfl, HA, HJ1, HB⟩ := hcut
    cases kq with
    | zero => exact absurd HA.out (by simp [psalteryref02_Exp.j0])
    | succ kj1 =>
      have H := HA.out
      clear HA
      simp only [psalteryref02_Exp.j0] at H
      by_cases c4 : x15_1 = true
      · subst c4
        have H1 : (some (0, 1)) = some (r1, r2) := by rw [if_pos rfl] at H; exact H
        clear H
        have H := H1
        clear H1
        simp only [Option.some.injEq, Prod.mk.injEq] at H
        obtain ⟨rfl, rfl⟩ := H
        go_wp2
        go_ret2
        exact ⟨by first | rfl | (simp [errW_none, errW_some] <;> rfl) | (simp [*, errW_none, errW_some] <;> rfl), by repeat (first | (with_reducible first | exact HB.out | apply below_alloc | apply pw_below_drewN | apply below_drew1) | exact HB.out)⟩
      · replace c4 := Bool.eq_false_iff.mpr c4
        subst c4
        have H1 : ((psalteryref02_roots.f).bind fun t104 => (psalteryref02_Exp.l0 kj1 (Int.tmod (wrap64 ((wrap64 (a0)) + 4096)) 256) (wrap64 ((wrap64 (Int.tdiv (wrap64 ((wrap64 (a0)) + 4096)) 256)) - 16)) 1073741824 t104 128 0)) = some (r1, r2) := by rw [if_neg (show ¬ (false = true) by decide)] at H; exact H
        clear H
        have H := H1
        clear H1
        replace H := Option.bind_eq_some_iff.mp H
        obtain ⟨t104, A50, H⟩ := H
        replace H : (psalteryref02_Exp.l0 kj1 (Int.tmod (wrap64 ((wrap64 (a0)) + 4096)) 256) (wrap64 ((wrap64 (Int.tdiv (wrap64 ((wrap64 (a0)) + 4096)) 256)) - 16)) 1073741824 t104 128 0) = some (r1, r2) := H
        have A5 := Aside0.mk A50
        clear A50
        have H' := Aside0.mk H
        clear H
        go_wp2_with (first | ((with_reducible refine gate_callee (f := 98) rfl ?_); refine goesL_ (some 24) rfl rfl Try.func98 (by kernel_rfl) rfl #[] rfl (by (try simp only [List.map_toArray, List.map_cons, List.map_nil]); first | done | rfl | (simp only [List.length_drop, List.length_take]; rfl)) ?_; (with_reducible refine (psalteryref02_roots.calls  t104 _ A5.out).mono ?_); rintro e w6 ⟨v105, rfl, ho0, hb⟩; refine ⟨_, rfl, ?_⟩; have n0_ := Aside0.mk (Kd.R_lower ho0 (below_size (by repeat (first | (with_reducible first | exact HB.out | apply below_alloc | apply pw_below_drewN | apply below_drew1) | exact HB.out)))); have n1_ := Aside0.mk (below_step (by repeat (first | (with_reducible first | exact HB.out | apply below_alloc | apply pw_below_drewN | apply below_drew1) | exact HB.out)) hb); clear HB; have HO106 := n0_; have HB := n1_; clear n0_ n1_; (try clear hb); (try clear hb2); (try clear hk); (try clear hi); (try clear ho0)))
        go_loopg [4, 6, 8, 9] kj1 (fun kq v4 v6 v8 v9 w' => ∃ (x4_2 : Int) (x6_2 : Int) (x8_2 : Int) (x9_2 : Int), v4 = .int .i64 x4_2 ∧ v6 = .int .u64 x6_2 ∧ v8 = .int .i64 x8_2 ∧ v9 = .int .i64 x9_2 ∧ Aside0 (psalteryref02_Exp.l0 kq x4_2 (wrap64 ((wrap64 (Int.tdiv (wrap64 ((wrap64 (a0)) + 4096)) 256)) - 16)) x6_2 t104 x8_2 x9_2 = some (r1, r2)) ∧ Aside0 (kq ≤ kj1) ∧ Aside0 (Kd.R (Kd.int .u64) 76 w' w.heap.size (fun _ => True) v105 t104) ∧ Aside0 (Below w.heap.size w w'))
        case atStart => exact ⟨(Int.tmod (wrap64 ((wrap64 (a0)) + 4096)) 256), (1073741824), (128), (0), (by first | rfl | (simp; done) | (simp [*]; done)), (by first | rfl | (simp; done) | (simp [*]; done)), (by first | rfl | (simp; done) | (simp [*]; done)), (by first | rfl | (simp; done) | (simp [*]; done)), H', ⟨Nat.le_refl _⟩, ⟨by (with_reducible repeat (first | apply Kd.R_alloc | apply Kd.R_drewN | apply Kd.R_drew)); exact HO106.out⟩, ⟨by repeat (first | (with_reducible first | exact HB.out | apply below_alloc | apply pw_below_drewN | apply below_drew1) | exact HB.out)⟩⟩
        case round =>
          clear H'
          try clear p2
          try clear c3
          try clear c3b0
          try clear c4
          try clear p6
          try clear p2
          obtain ⟨x4_2, x6_2, x8_2, x9_2, rfl, rfl, rfl, rfl, HA, HK2, HO_7, HB⟩ := hrel
          cases gk with
          | zero => exact absurd HA.out (by simp [psalteryref02_Exp.l0])
          | succ k2 =>
            have H := HA.out
            clear HA
            simp only [psalteryref02_Exp.l0] at H
            by_cases c7 : x9_2 < 8
            · rw [if_pos c7] at H
              have c7b0 : decide (x9_2 < 8) = true := decide_eq_true c7
              clear c7
              by_cases c8 : x4_2 ≥ x8_2
              · rw [if_pos c8] at H
                have c8b0 : decide (x8_2 ≤ x4_2) = true := decide_eq_true c8
                clear c8
                by_cases c9 : 0 ≤ x9_2
                · rw [if_pos c9] at H
                  have c9b0 : decide (0 ≤ x9_2) = true := decide_eq_true c9
                  clear c9
                  by_cases c10 : x9_2 < (t104.length : Int)
                  · rw [if_pos c10] at H
                    have c10b0 : decide (x9_2 < (t104.length : Int)) = true := decide_eq_true c10
                    clear c10
                    have H' := Aside0.mk H
                    clear H
                    obtain ⟨Ao11, co11, eo11⟩ := Kd.R_slice HO_7.out
                    subst eo11
                    have p107 : 0 ≤ (x9_2 : Int) := of_decide_eq_true (by first | (with_reducible assumption) | assumption)
                    have q107 : x9_2 < (t104.length : Int) := of_decide_eq_true (by first | (with_reducible assumption) | assumption)
                    obtain ⟨ad107, e107, hx107_0⟩ := Kd.at_int (Kd.R_reads' HO_7.out).2.2 x9_2 p107 q107
                    cases e107
                    replace p107 := eq_true p107
                    replace q107 := eq_true q107
                    go_wp2
                    go_roundg k2
                    case measure => have := HJ1.out; have := HK2.out; omega
                    case rel => exact ⟨(wrap64 (x4_2 - x8_2)), (IntKind.u64.wrap (Int.tdiv (IntKind.u64.wrap (x6_2 * (rd t104 x9_2))) 1073741824)), (wrap64 (Int.tdiv x8_2 2)), (wrap64 (x9_2 + 1)), (by first | rfl | (simp; done) | (simp [*]; done)), (by first | rfl | (simp; done) | (simp [*]; done)), (by first | rfl | (simp; done) | (simp [*]; done)), (by first | rfl | (simp; done) | (simp [*]; done)), H', ⟨by have := HJ1.out; have := HK2.out; omega⟩, ⟨by (with_reducible repeat (first | apply Kd.R_alloc | apply Kd.R_drewN | apply Kd.R_drew)); exact HO_7.out⟩, ⟨by repeat (first | (with_reducible first | exact HB.out | apply below_alloc | apply pw_below_drewN | apply below_drew1) | exact HB.out)⟩⟩
                  · rw [if_neg c10] at H
                    exact absurd H (by simp)
                · rw [if_neg c9] at H
                  exact absurd H (by simp)
              · rw [if_neg c8] at H
                have c8b0 : decide (x8_2 ≤ x4_2) = false := decide_eq_false c8
                clear c8
                have H' := Aside0.mk H
                clear H
                go_wp2
                go_roundg k2
                case measure => have := HJ1.out; have := HK2.out; omega
                case rel => exact ⟨(x4_2), (x6_2), (wrap64 (Int.tdiv x8_2 2)), (wrap64 (x9_2 + 1)), (by first | rfl | (simp; done) | (simp [*]; done)), (by first | rfl | (simp; done) | (simp [*]; done)), (by first | rfl | (simp; done) | (simp [*]; done)), (by first | rfl | (simp; done) | (simp [*]; done)), H', ⟨by have := HJ1.out; have := HK2.out; omega⟩, ⟨by (with_reducible repeat (first | apply Kd.R_alloc | apply Kd.R_drewN | apply Kd.R_drew)); exact HO_7.out⟩, ⟨by repeat (first | (with_reducible first | exact HB.out | apply below_alloc | apply pw_below_drewN | apply below_drew1) | exact HB.out)⟩⟩
            · rw [if_neg c7] at H
              have c7b0 : decide (x9_2 < 8) = false := decide_eq_false c7
              clear c7
              have H' := Aside0.mk H
              clear H
              go_wp2
              go_loopg [5, 6] k2 (fun kq v5 v6 w' => ∃ (x5_3 : Int) (x6_3 : Int), v5 = .int .i64 x5_3 ∧ v6 = .int .u64 x6_3 ∧ Aside0 (psalteryref02_Exp.l1 kq x5_3 x6_3 = some (r1, r2)) ∧ Aside0 (kq ≤ k2) ∧ Aside0 (Below w.heap.size w w'))
              case atStart => exact ⟨((wrap64 ((wrap64 (Int.tdiv (wrap64 ((wrap64 (a0)) + 4096)) 256)) - 16))), (x6_2), (by first | rfl | (simp; done) | (simp [*]; done)), (by first | rfl | (simp; done) | (simp [*]; done)), H', ⟨Nat.le_refl _⟩, ⟨by repeat (first | (with_reducible first | exact HB.out | apply below_alloc | apply pw_below_drewN | apply below_drew1) | exact HB.out)⟩⟩
              case round =>
                clear H'
                try clear c1
                try clear p1
                try clear q1
                try clear hx1
                try clear p2
                try clear c3
                try clear c3b0
                try clear c4
                try clear p6
                try clear c7
                try clear c7b0
                try clear c8
                try clear c8b0
                try clear c9
                try clear c9b0
                try clear c10
                try clear c10b0
                try clear p10
                try clear q10
                try clear hx10
                try clear hx107_0
                try clear p107
                try clear p2
                try clear p6
                try clear q107
                obtain ⟨x5_3, x6_3, rfl, rfl, HA, HK3, HB⟩ := hrel
                cases gk with
                | zero => exact absurd HA.out (by simp [psalteryref02_Exp.l1])
                | succ k3 =>
                  have H := HA.out
                  clear HA
                  simp only [psalteryref02_Exp.l1] at H
                  by_cases c12 : x5_3 > 14
                  · rw [if_pos c12] at H
                    have c12b0 : decide (14 < x5_3) = true := decide_eq_true c12
                    clear c12
                    have H' := Aside0.mk H
                    clear H
                    go_wp2
                    go_roundg k3
                    case measure => have := HJ1.out; have := HK2.out; have := HK3.out; omega
                    case rel => exact ⟨(wrap64 (x5_3 - 1)), (IntKind.u64.wrap (x6_3 * 2)), (by first | rfl | (simp; done) | (simp [*]; done)), (by first | rfl | (simp; done) | (simp [*]; done)), H', ⟨by have := HJ1.out; have := HK2.out; have := HK3.out; omega⟩, ⟨by repeat (first | (with_reducible first | exact HB.out | apply below_alloc | apply pw_below_drewN | apply below_drew1) | exact HB.out)⟩⟩
                  · rw [if_neg c12] at H
                    have c12b0 : decide (14 < x5_3) = false := decide_eq_false c12
                    clear c12
                    replace H := Option.bind_eq_some_iff.mp H
                    obtain ⟨t108, A130, H⟩ := H
                    replace H : (some (IntKind.u64.wrap (t108), 0)) = some (r1, r2) := H
                    have A13 := Aside0.mk A130
                    clear A130
                    simp only [Option.some.injEq, Prod.mk.injEq] at H
                    obtain ⟨rfl, rfl⟩ := H
                    go_wp2_with (first | ((with_reducible refine gate_callee (f := 52) rfl ?_); refine goesL_ (some 54) rfl rfl Try.func52 (by kernel_rfl) rfl #[.int .i64 (wrap64 (x6_3)), .int .i64 (wrap64 (14 - x5_3))] rfl (by (try simp only [List.map_toArray, List.map_cons, List.map_nil]); first | done | rfl | (simp only [List.length_drop, List.length_take]; rfl)) ?_; (with_reducible refine (psalteryref01_Round.calls (wrap64 (x6_3)) (wrap64 (14 - x5_3)) t108 _ A13.out).mono ?_); rintro e w' ⟨rfl, ⟨nd, rfl⟩⟩; refine ⟨_, rfl, ?_⟩))
                    go_ret2
                    exact ⟨by first | rfl | (simp [errW_none, errW_some] <;> rfl) | (simp [*, errW_none, errW_some] <;> rfl), by repeat (first | (with_reducible first | exact HB.out | apply below_alloc | apply pw_below_drewN | apply below_drew1) | exact HB.out)⟩

end Go.Proofs.Ytojlgjdebokelab.PLib1
