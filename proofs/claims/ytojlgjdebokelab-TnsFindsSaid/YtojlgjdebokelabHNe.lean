import Derived.Test.YtojlgjdebokelabHRrb
import Derived.Deep.QuietTactic
set_option linter.unusedVariables false
set_option linter.unusedSimpArgs false
namespace Go.Proofs.YtojlgjdebokelabH
open Go.RowKit Go.Proofs.YtojlgjdebokelabW.PrintWords Go.Proofs.YtojlgjdebokelabW.PrintMore Go.Proofs.YtojlgjdebokelabW
def far (k i : Int) : Int := max (k - pv i) (-(k - pv i))
set_option maxRecDepth 100000 in
theorem far_any (k i : Int) (B : Nat) (w : World) (hc : w.cell? ⟨B, 0, none⟩ = some (.int .i64 k)) (h0 : 0 ≤ i) (h1 : i ≤ 16) (hk : -32767 ≤ k ∧ k ≤ 32767) :
    Calls Try.prog 92 #[.int .i64 i, .pointer (some ⟨B, 0, none⟩)] w fun e w' => e = .returned (.int .i64 (far k i)) ∧ ∃ n, w' = w.drewN n := by
  have hb := pv_bd i
  unfold I16 at hb
  obtain ⟨hb0, hb1⟩ := hb
  obtain ⟨hk0, hk1⟩ := hk
  have hd0 : -65535 ≤ k - pv i := by omega
  have hd1 : k - pv i ≤ 65535 := by omega
  go_enter Try.func92, Try.ntmps92
  go_wp2_with fail
  go_quiet ((first | (go_at_call 93; exact Calls.quiet_of (part17_any i _ (by assumption) (by assumption)))))
  go_wp2
  go_ret
  exact ⟨by unfold far; rfl, _, rfl⟩
def nearN (k : Int) : Nat → Int
  | 0 => 0
  | i + 1 => if far k i < far k (nearN k i) then (i : Int) else nearN k i
theorem nearN_bd (k : Int) : ∀ i : Nat, 0 ≤ nearN k i ∧ (nearN k i = 0 ∨ nearN k i < i)
  | 0 => ⟨Int.le_refl _, .inl rfl⟩
  | i + 1 => by
    have := nearN_bd k i
    unfold nearN
    split <;> omega
structure NeRel (w wr : World) (k : Int) : Prop where
  box : wr.heap[w.heap.size]? = some (.cells #[.int .i64 k] 2 (0, 0))
  below : Below w.heap.size w wr
theorem NeRel.drew {w wr : World} {k : Int} (h : NeRel w wr k) (n : Nat) : NeRel w (wr.drewN n) k := ⟨h.box, pw_below_drewN h.below n⟩
set_option maxRecDepth 100000 in
set_option maxHeartbeats 2000000 in
theorem nearest_any (k : Int) (w : World) (hk : -32767 ≤ k ∧ k ≤ 32767) :
    Calls Try.prog 63 #[.int .i64 k] w fun e w' => e = .returned (.int .i64 (nearN k 17)) ∧ Below w.heap.size w w' := by
  have hst : Hid (NeRel w (w.alloc (.cells #[.int .i64 k] 2)) k) := ⟨heap_alloc_new w _, (Below.refl _ _).alloc (Nat.le_refl _) _⟩
  go_enter Try.func63, Try.ntmps63
  go_wp2
  go_loopw [3, 7] (fun b i wr => ∃ (n : Nat) (c : Int), n ≤ 17 ∧ i = .int .i64 n ∧ b = .int .i64 c ∧ Hid (c = nearN k n) ∧ NeRel w wr k) (fun _ i _ => 17 - (intOf i).toNat)
  case atStart => exact ⟨0, 0, by omega, rfl, rfl, rfl, hst⟩
  case round =>
    obtain ⟨n, b, hn, rfl, rfl, hbn, hM⟩ := hrel
    by_cases hlt : n < 17
    · have hb := nearN_bd k n
      rw [← hbn.out] at hb
      have hc : wr.cell? ⟨w.heap.size, 0, none⟩ = some (.int .i64 k) := blk_cell hM.box 0
      have hn0 : (0 : Int) ≤ (n : Int) := by omega
      have hn1 : (n : Int) ≤ 16 := by omega
      have hb0 : 0 ≤ b := hb.1
      have hb1 : b ≤ 16 := by omega
      have hlt' : (n : Int) < 17 := by omega
      clear hb
      by_cases hf : far k n < far k b
      · have hq : Hid (nearN k (n + 1) = n) := by
          show (if far k n < far k (nearN k n) then (n : Int) else nearN k n) = n
          rw [← hbn.out, if_pos hf]
        have hg : decide (far k n < far k b) = true := by simpa using hf
        clear hf
        have A1 := Lib.hid (fun W h => far_any k n w.heap.size W h hn0 hn1 hk)
        have A2 := Lib.hid (fun W h => far_any k b w.heap.size W h hb0 hb1 hk)
        go_wp2_with fail
        refine (A1.out _ hc).mono ?_
        rintro e w1 ⟨rfl, nm, rfl⟩
        go_wp2_with fail
        refine (A2.out (wr.drewN nm) (by exact hc)).mono ?_
        rintro e w1 ⟨rfl, nm2, rfl⟩
        clear A1 A2
        go_wp2
        go_roundw
        case rel => exact ⟨n + 1, n, hlt, by push_cast; rfl, rfl, hq.out.symm, hM.drew _⟩
        case measure => simp [intOf]; omega
      · have hq : Hid (nearN k (n + 1) = b) := by
          show (if far k n < far k (nearN k n) then (n : Int) else nearN k n) = _
          rw [← hbn.out, if_neg hf]
        have hg : decide (far k n < far k b) = false := by simpa using hf
        clear hf
        have A1 := Lib.hid (fun W h => far_any k n w.heap.size W h hn0 hn1 hk)
        have A2 := Lib.hid (fun W h => far_any k b w.heap.size W h hb0 hb1 hk)
        go_wp2_with fail
        refine (A1.out _ hc).mono ?_
        rintro e w1 ⟨rfl, nm, rfl⟩
        go_wp2_with fail
        refine (A2.out (wr.drewN nm) (by exact hc)).mono ?_
        rintro e w1 ⟨rfl, nm2, rfl⟩
        clear A1 A2
        go_wp2
        go_roundw
        case rel => exact ⟨n + 1, b, hlt, by push_cast; rfl, rfl, hq.out.symm, hM.drew _⟩
        case measure => simp [intOf]; omega
    · obtain rfl : n = 17 := by omega
      have hq : b = nearN k 17 := hbn.out
      go_wp2
      go_ret
      rw [← hq]
      exact ⟨rfl, hM.below⟩
end Go.Proofs.YtojlgjdebokelabH
