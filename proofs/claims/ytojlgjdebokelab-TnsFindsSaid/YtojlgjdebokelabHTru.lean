import Derived.Test.YtojlgjdebokelabHOn
set_option linter.unusedVariables false
set_option linter.unusedSimpArgs false
namespace Go.Proofs.YtojlgjdebokelabH
open Go.RowKit Go.Proofs.YtojlgjdebokelabW.PrintWords Go.Proofs.YtojlgjdebokelabW.PrintMore Go.Proofs.YtojlgjdebokelabW
/-- What a line-by-line way of a filter answers, and the error. -/
def thrv (F : Int → Int → Int → Int → List Int → Int → Int → Int → Int → List Int) (l : List Int) (on i0 i1 i2 i3 : Int) : List Int × Int :=
  if 120 < l.length then ([], 2) else if Fok on i0 i1 i2 i3 then (if on = 0 then l else F (pv i0) (pv i1) (pv i2) (pv i3) l 0 0 0 0, 0) else ([], 1)
theorem thr_run (A : Option Addr) (c : Nat) (l : List Int) (on i0 i1 i2 i3 : Int) (w : World) (hr : Kd.C (Kd.int .i32) w A l.length l) (hx : ∀ x ∈ l, I32 x) :
    Calls Try.prog 76 #[.slice A l.length c, fval on i0 i1 i2 i3, .func (.func 77) #[] #[]] w fun e w' => ∃ v, e = .returned (.tuple #[v, .int .i64 (thrv runL l on i0 i1 i2 i3).2]) ∧ Kd.R (Kd.int .i32) 21 w' w.heap.size (fun _ => True) v (thrv runL l on i0 i1 i2 i3).1 ∧ Below w.heap.size w w' := by
  unfold thrv
  by_cases h1 : 120 < l.length
  · rw [if_pos h1]
    exact (thr_long A _ c on i0 i1 i2 i3 _ w h1).mono fun e w' h => ⟨_, h.1, Kd.R_nil _ _ _ _ _, h.2⟩
  · rw [if_neg h1]
    by_cases h2 : Fok on i0 i1 i2 i3
    · rw [if_pos h2]
      rcases h2.1 with rfl | rfl
      · rw [if_pos rfl]
        exact thr_off A c l i0 i1 i2 i3 _ w hr (by omega) h2
      · rw [if_neg (by decide)]
        by_cases h3 : l = []
        · subst h3
          exact thr_nil A c i0 i1 i2 i3 _ w hr h2
        · exact thr_on_run A c l i0 i1 i2 i3 w hr (by omega) hx h2 h3
    · rw [if_neg h2]
      exact (thr_bad A _ c on i0 i1 i2 i3 _ w (by omega) h2).mono fun e w' h => ⟨_, h.1, Kd.R_nil _ _ _ _ _, h.2⟩
set_option maxRecDepth 100000 in
theorem runf_any (A : Option Addr) (c : Nat) (l : List Int) (on i0 i1 i2 i3 : Int) (w : World) (hr : Kd.C (Kd.int .i32) w A l.length l) (hx : ∀ x ∈ l, I32 x) :
    Calls Try.prog 33 #[.slice A l.length c, fval on i0 i1 i2 i3] w fun e w' => ∃ v, e = .returned (.tuple #[v, .int .i64 (thrv runL l on i0 i1 i2 i3).2]) ∧ Kd.R (Kd.int .i32) 21 w' w.heap.size (fun _ => True) v (thrv runL l on i0 i1 i2 i3).1 ∧ Below w.heap.size w w' := by
  have Hr := Lib.hid hr
  have Hx := Lib.hid hx
  clear hr hx
  have hF := Fil.start w 51 on i0 i1 i2 i3
  go_enter Try.func33, Try.ntmps33
  go_wp2_with (go_at_call 76; refine (thr_run A c l on i0 i1 i2 i3 _ (Kd.C_below Hr.out hF.below) Hx.out).mono ?_; rintro e w1 ⟨v, rfl, hR, hb⟩; (replace hR := Lib.hid (Kd.R_lower hR hF.below.size)); (replace hb : Hid (Below w.heap.size w w1) := below_then hF.below hF.below.size hb); clear hF)
  go_ret2
  exact ⟨_, rfl, hR.out, hb.out⟩
theorem thr_undo (A : Option Addr) (c : Nat) (l : List Int) (on i0 i1 i2 i3 : Int) (w : World) (hr : Kd.C (Kd.int .i32) w A l.length l) (hx : ∀ x ∈ l, I32 x) :
    Calls Try.prog 76 #[.slice A l.length c, fval on i0 i1 i2 i3, .func (.func 78) #[] #[]] w fun e w' => ∃ v, e = .returned (.tuple #[v, .int .i64 (thrv undoL l on i0 i1 i2 i3).2]) ∧ Kd.R (Kd.int .i32) 21 w' w.heap.size (fun _ => True) v (thrv undoL l on i0 i1 i2 i3).1 ∧ Below w.heap.size w w' := by
  unfold thrv
  by_cases h1 : 120 < l.length
  · rw [if_pos h1]
    exact (thr_long A _ c on i0 i1 i2 i3 _ w h1).mono fun e w' h => ⟨_, h.1, Kd.R_nil _ _ _ _ _, h.2⟩
  · rw [if_neg h1]
    by_cases h2 : Fok on i0 i1 i2 i3
    · rw [if_pos h2]
      rcases h2.1 with rfl | rfl
      · rw [if_pos rfl]
        exact thr_off A c l i0 i1 i2 i3 _ w hr (by omega) h2
      · rw [if_neg (by decide)]
        by_cases h3 : l = []
        · subst h3
          exact thr_nil A c i0 i1 i2 i3 _ w hr h2
        · exact thr_on_undo A c l i0 i1 i2 i3 w hr (by omega) hx h2 h3
    · rw [if_neg h2]
      exact (thr_bad A _ c on i0 i1 i2 i3 _ w (by omega) h2).mono fun e w' h => ⟨_, h.1, Kd.R_nil _ _ _ _ _, h.2⟩
set_option maxRecDepth 100000 in
theorem undof_any (A : Option Addr) (c : Nat) (l : List Int) (on i0 i1 i2 i3 : Int) (w : World) (hr : Kd.C (Kd.int .i32) w A l.length l) (hx : ∀ x ∈ l, I32 x) :
    Calls Try.prog 34 #[.slice A l.length c, fval on i0 i1 i2 i3] w fun e w' => ∃ v, e = .returned (.tuple #[v, .int .i64 (thrv undoL l on i0 i1 i2 i3).2]) ∧ Kd.R (Kd.int .i32) 21 w' w.heap.size (fun _ => True) v (thrv undoL l on i0 i1 i2 i3).1 ∧ Below w.heap.size w w' := by
  have Hr := Lib.hid hr
  have Hx := Lib.hid hx
  clear hr hx
  have hF := Fil.start w 51 on i0 i1 i2 i3
  go_enter Try.func34, Try.ntmps34
  go_wp2_with (go_at_call 76; refine (thr_undo A c l on i0 i1 i2 i3 _ (Kd.C_below Hr.out hF.below) Hx.out).mono ?_; rintro e w1 ⟨v, rfl, hR, hb⟩; (replace hR := Lib.hid (Kd.R_lower hR hF.below.size)); (replace hb : Hid (Below w.heap.size w w1) := below_then hF.below hF.below.size hb); clear hF)
  go_ret2
  exact ⟨_, rfl, hR.out, hb.out⟩
end Go.Proofs.YtojlgjdebokelabH
