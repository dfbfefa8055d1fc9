import Derived.Test.YtojlgjdebokelabHFd
import Derived.Test.YtojlgjdebokelabPLib5x
set_option linter.unusedVariables false
set_option linter.unusedSimpArgs false
namespace Go.Proofs.YtojlgjdebokelabH
open Go.RowKit Go.Proofs.YtojlgjdebokelabW.PrintWords Go.Proofs.YtojlgjdebokelabW.PrintMore Go.Proofs.YtojlgjdebokelabW
set_option maxRecDepth 100000 in
theorem find_long (A : Option Addr) (c n : Nat) (w : World) (hl : 120 < n) :
    Calls Try.prog 21 #[.slice A n c] w fun e w' => e = .returned (.tuple #[fval 0 0 0 0 0, .int .i64 2]) ∧ Below w.heap.size w w' := by
  have h120 : (120 : Int) < (n : Int) := by omega
  go_enter Try.func21, Try.ntmps21
  go_wp2
  refine bodyPost_ret (v := .tuple #[fval 0 0 0 0 0, .int .i64 2]) (results_list (rs := [.cell 2 51, .tmp 3]) rfl (by simp) (.cell w.heap.size 51 _ (0, 0) _ rfl (heap_alloc_new w _) Try.underlying51 rfl (by kernel_rfl) (.tmp .nil))) rfl ⟨rfl, (Below.refl _ _).alloc (Nat.le_refl _) _⟩
open Go.Proofs.Ytojlgjdebokelab.PLib5
theorem same32_l0 (l : List Int) (hl : l.length ≤ 140737488351232) (d : Nat) : ∀ (k : Nat) (i : Int), 0 ≤ i → i ≤ l.length → (l.length : Int) - i = d → d < k → psalteryref08_Same32.l0 k l l i = some true := by
  induction d with
  | zero =>
    intro k i h0 h1 hd hk
    obtain ⟨k, rfl⟩ : ∃ m, k = m + 1 := ⟨k - 1, by omega⟩
    simp only [psalteryref08_Same32.l0]; rw [if_neg (by omega)]
  | succ d ih =>
    intro k i h0 h1 hd hk
    obtain ⟨k, rfl⟩ : ∃ m, k = m + 1 := ⟨k - 1, by omega⟩
    simp only [psalteryref08_Same32.l0]
    rw [if_pos (by omega), if_pos h0, if_pos (by omega), if_true, show wrap64 (i + 1) = i + 1 by unfold wrap64; omega]
    exact ih k (i + 1) (by omega) (by omega) (by omega) (by omega)
theorem same32_any (A0 A1 : Option Addr) (c0 c1 : Nat) (l : List Int) (w : World) (h0 : Kd.C (Kd.int .i32) w A0 l.length l) (hc0 : l.length ≤ c0) (h1 : Kd.C (Kd.int .i32) w A1 l.length l) (hc1 : l.length ≤ c1) (hl : l.length ≤ 140737488351232) :
    Calls Try.prog 12 #[.slice A0 l.length c0, .slice A1 l.length c1] w fun e w' => e = .returned (.bool true) ∧ ∃ n, w' = w.drewN n :=
  (psalteryref08_Same32.calls (l.length + 1) A0 c0 l A1 c1 l true w h0 hc0 h1 hc1 (by unfold psalteryref08_Same32.f; rw [if_pos rfl]; exact same32_l0 l hl l.length _ 0 (by omega) (by omega) (by omega) (by omega))).mono fun _ _ h => ⟨h.1, h.2.out⟩
theorem same16_l0 (l : List Int) (hl : l.length ≤ 140737488351232) (d : Nat) : ∀ (k : Nat) (i : Int), 0 ≤ i → i ≤ l.length → (l.length : Int) - i = d → d < k → psalteryref04_Same.l0 k l l i = some true := by
  induction d with
  | zero =>
    intro k i h0 h1 hd hk
    obtain ⟨k, rfl⟩ : ∃ m, k = m + 1 := ⟨k - 1, by omega⟩
    simp only [psalteryref04_Same.l0]; rw [if_neg (by omega)]
  | succ d ih =>
    intro k i h0 h1 hd hk
    obtain ⟨k, rfl⟩ : ∃ m, k = m + 1 := ⟨k - 1, by omega⟩
    simp only [psalteryref04_Same.l0]
    rw [if_pos (by omega), if_pos h0, if_pos (by omega), if_true, show wrap64 (i + 1) = i + 1 by unfold wrap64; omega]
    exact ih k (i + 1) (by omega) (by omega) (by omega) (by omega)
theorem same16_any (A0 A1 : Option Addr) (c0 c1 : Nat) (l : List Int) (w : World) (h0 : Kd.C (Kd.int .i16) w A0 l.length l) (hc0 : l.length ≤ c0) (h1 : Kd.C (Kd.int .i16) w A1 l.length l) (hc1 : l.length ≤ c1) (hl : l.length ≤ 140737488351232) :
    Calls Try.prog 18 #[.slice A0 l.length c0, .slice A1 l.length c1] w fun e w' => e = .returned (.bool true) ∧ ∃ n, w' = w.drewN n :=
  (psalteryref04_Same.calls (l.length + 1) A0 c0 l A1 c1 l true w h0 hc0 h1 hc1 (by unfold psalteryref04_Same.f; rw [if_pos rfl]; exact same16_l0 l hl l.length _ 0 (by omega) (by omega) (by omega) (by omega))).mono fun _ _ h => ⟨h.1, h.2.out⟩
theorem fd_zeros : fdV (alk (List.replicate 40 0)) = fval 0 0 0 0 0 := by
  have h : alk (List.replicate 40 0) 0 = 0 := by decide +kernel
  unfold fdV fdVal
  rw [if_pos (.inl (by rw [h]; exact Int.le_refl 0))]
theorem run_eights : thrv runL [5, -7, 900] 1 8 8 8 8 = ([5, -7, 900], 0) := by decide +kernel
theorem run_bad : thrv runL [5, -7, 900] 2 0 0 0 0 = ([], 1) := by decide +kernel
end Go.Proofs.YtojlgjdebokelabH
