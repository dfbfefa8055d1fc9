import Derived.Test.YtojlgjdebokelabHTof
set_option linter.unusedVariables false
set_option linter.unusedSimpArgs false
namespace Go.Proofs.YtojlgjdebokelabH
open Go.RowKit Go.Proofs.YtojlgjdebokelabW.PrintWords Go.Proofs.YtojlgjdebokelabW.PrintMore Go.Proofs.YtojlgjdebokelabW
theorem clone32_info : (Try.prog.info? 21).map (fun i => (i.zero, i.size, i.bytes)) = some (some (.int .i32 0), 1, 4) := by kernel_rfl
set_option maxRecDepth 100000 in
theorem clone32_any (A : Option Addr) (c : Nat) (l : List Int) (w : World) (hr : Kd.C (Kd.int .i32) w A l.length l) (hb : l.length ≤ 20000) :
    Calls Try.prog 99 #[.slice A l.length c] w fun e w' => ∃ v, e = .returned v ∧ Kd.R (Kd.int .i32) 21 w' w.heap.size (fun _ => True) v l ∧ Below w.heap.size w w' := by
  have Hr := Lib.hid hr
  clear hr
  rcases A with _ | ad
  · have hl : l = [] := by
      rcases Nat.eq_zero_or_pos l.length with h | h
      · exact List.eq_nil_of_length_eq_zero h
      · obtain ⟨ad, h, _⟩ := Hr.out.2.2 h; cases h
    subst hl
    have q : ∀ w, (binOp BinOp.eql 25 (.slice none 0 c) (.slice none 0 0)).run Try.prog w = .ok (.bool true) w := fun _ => by kernel_rfl
    go_enter Try.func99, Try.ntmps99
    go_wp2
    go_ret
    exact ⟨_, rfl, Kd.R_nil _ _ _ _ _, Below.refl _ _⟩
  · have q : ∀ w, (binOp BinOp.eql 25 (.slice (some ad) l.length c) (.slice none 0 0)).run Try.prog w = .ok (.bool false) w := fun _ => by kernel_rfl
    have ho := own_lit w w.heap.size 21 .i32 [] (Nat.le_refl _) (by simp)
    have HO : Kd.R (Kd.int .i32) 21 (w.alloc (.cells #[] 21)) w.heap.size (fun _ => True) (.slice (some ⟨w.heap.size, 0, none⟩) 0 0) [] := Kd.R_of_own ho (fun _ _ => trivial)
    have hB : Below w.heap.size w (w.alloc (.cells #[] 21)) := (Below.refl _ _).alloc (Nat.le_refl _) _
    have HR : Hid (Kd.C (Kd.int .i32) (w.alloc (.cells #[] 21)) (some ad) l.length l) := Kd.C_below Hr.out hB
    have HO2 := Lib.hid HO
    have HB2 := Lib.hid hB
    clear ho HO hB
    go_enter Try.func99, Try.ntmps99
    go_wp2_with ((with_reducible refine gate_builtin (b := .append) (xs := #[.tmp 5, .tmp 6]) rfl ?_); at_builtin; refine Kd.R_append_row (Value.int .i32) 0 (w0 := w) w.heap.size rfl (.tmp 5) (.tmp 6) 25 21 (.int .i32 0) 4 rfl Try.underlying25 clone32_info rfl (by decide) _ [] l _ _ _ (fun _ => True) rfl rfl (fun _ _ => trivial) HO2.out HR.out HB2.out (by simp) (by simp; omega) ?_; (intro v1 w1 hR hBl hg hat); (replace hR := Lib.hid hR); (replace hBl := Lib.hid hBl); clear hg hat)
    go_ret
    exact ⟨_, rfl, hR.out, hBl.out⟩
theorem clone16_info : (Try.prog.info? 73).map (fun i => (i.zero, i.size, i.bytes)) = some (some (.int .i16 0), 1, 2) := by kernel_rfl
set_option maxRecDepth 100000 in
theorem clone16_any (A : Option Addr) (c : Nat) (l : List Int) (w : World) (hr : Kd.C (Kd.int .i16) w A l.length l) (hb : l.length ≤ 20000) :
    Calls Try.prog 75 #[.slice A l.length c] w fun e w' => ∃ v, e = .returned v ∧ Kd.R (Kd.int .i16) 73 w' w.heap.size (fun _ => True) v l ∧ Below w.heap.size w w' := by
  have Hr := Lib.hid hr
  clear hr
  rcases A with _ | ad
  · have hl : l = [] := by
      rcases Nat.eq_zero_or_pos l.length with h | h
      · exact List.eq_nil_of_length_eq_zero h
      · obtain ⟨ad, h, _⟩ := Hr.out.2.2 h; cases h
    subst hl
    have q : ∀ w, (binOp BinOp.eql 38 (.slice none 0 c) (.slice none 0 0)).run Try.prog w = .ok (.bool true) w := fun _ => by kernel_rfl
    go_enter Try.func75, Try.ntmps75
    go_wp2
    go_ret
    exact ⟨_, rfl, Kd.R_nil _ _ _ _ _, Below.refl _ _⟩
  · have q : ∀ w, (binOp BinOp.eql 38 (.slice (some ad) l.length c) (.slice none 0 0)).run Try.prog w = .ok (.bool false) w := fun _ => by kernel_rfl
    have ho := own_lit w w.heap.size 73 .i16 [] (Nat.le_refl _) (by simp)
    have HO : Kd.R (Kd.int .i16) 73 (w.alloc (.cells #[] 73)) w.heap.size (fun _ => True) (.slice (some ⟨w.heap.size, 0, none⟩) 0 0) [] := Kd.R_of_own ho (fun _ _ => trivial)
    have hB : Below w.heap.size w (w.alloc (.cells #[] 73)) := (Below.refl _ _).alloc (Nat.le_refl _) _
    have HR : Hid (Kd.C (Kd.int .i16) (w.alloc (.cells #[] 73)) (some ad) l.length l) := Kd.C_below Hr.out hB
    have HO2 := Lib.hid HO
    have HB2 := Lib.hid hB
    clear ho HO hB
    go_enter Try.func75, Try.ntmps75
    go_wp2_with ((with_reducible refine gate_builtin (b := .append) (xs := #[.tmp 5, .tmp 6]) rfl ?_); at_builtin; refine Kd.R_append_row (Value.int .i16) 0 (w0 := w) w.heap.size rfl (.tmp 5) (.tmp 6) 38 73 (.int .i16 0) 2 rfl Try.underlying38 clone16_info rfl (by decide) _ [] l _ _ _ (fun _ => True) rfl rfl (fun _ _ => trivial) HO2.out HR.out HB2.out (by simp) (by simp; omega) ?_; (intro v1 w1 hR hBl hg hat); (replace hR := Lib.hid hR); (replace hBl := Lib.hid hBl); clear hg hat)
    go_ret
    exact ⟨_, rfl, hR.out, hBl.out⟩
theorem clone64_info : (Try.prog.info? 2).map (fun i => (i.zero, i.size, i.bytes)) = some (some (.int .i64 0), 1, 8) := by kernel_rfl
set_option maxRecDepth 100000 in
theorem clone64_any (A : Option Addr) (c : Nat) (l : List Int) (w : World) (hr : Kd.C (Kd.int .i64) w A l.length l) (hb : l.length ≤ 20000) :
    Calls Try.prog 61 #[.slice A l.length c] w fun e w' => ∃ v, e = .returned v ∧ Kd.R (Kd.int .i64) 2 w' w.heap.size (fun _ => True) v l ∧ Below w.heap.size w w' := by
  have Hr := Lib.hid hr
  clear hr
  rcases A with _ | ad
  · have hl : l = [] := by
      rcases Nat.eq_zero_or_pos l.length with h | h
      · exact List.eq_nil_of_length_eq_zero h
      · obtain ⟨ad, h, _⟩ := Hr.out.2.2 h; cases h
    subst hl
    have q : ∀ w, (binOp BinOp.eql 37 (.slice none 0 c) (.slice none 0 0)).run Try.prog w = .ok (.bool true) w := fun _ => by kernel_rfl
    go_enter Try.func61, Try.ntmps61
    go_wp2
    go_ret
    exact ⟨_, rfl, Kd.R_nil _ _ _ _ _, Below.refl _ _⟩
  · have q : ∀ w, (binOp BinOp.eql 37 (.slice (some ad) l.length c) (.slice none 0 0)).run Try.prog w = .ok (.bool false) w := fun _ => by kernel_rfl
    have ho := own_lit w w.heap.size 2 .i64 [] (Nat.le_refl _) (by simp)
    have HO : Kd.R (Kd.int .i64) 2 (w.alloc (.cells #[] 2)) w.heap.size (fun _ => True) (.slice (some ⟨w.heap.size, 0, none⟩) 0 0) [] := Kd.R_of_own ho (fun _ _ => trivial)
    have hB : Below w.heap.size w (w.alloc (.cells #[] 2)) := (Below.refl _ _).alloc (Nat.le_refl _) _
    have HR : Hid (Kd.C (Kd.int .i64) (w.alloc (.cells #[] 2)) (some ad) l.length l) := Kd.C_below Hr.out hB
    have HO2 := Lib.hid HO
    have HB2 := Lib.hid hB
    clear ho HO hB
    go_enter Try.func61, Try.ntmps61
    go_wp2_with ((with_reducible refine gate_builtin (b := .append) (xs := #[.tmp 5, .tmp 6]) rfl ?_); at_builtin; refine Kd.R_append_row (Value.int .i64) 0 (w0 := w) w.heap.size rfl (.tmp 5) (.tmp 6) 37 2 (.int .i64 0) 8 rfl Try.underlying37 clone64_info rfl (by decide) _ [] l _ _ _ (fun _ => True) rfl rfl (fun _ _ => trivial) HO2.out HR.out HB2.out (by simp) (by simp; omega) ?_; (intro v1 w1 hR hBl hg hat); (replace hR := Lib.hid hR); (replace hBl := Lib.hid hBl); clear hg hat)
    go_ret
    exact ⟨_, rfl, hR.out, hBl.out⟩
end Go.Proofs.YtojlgjdebokelabH
