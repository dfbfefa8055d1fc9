import Derived.Test.YtojlgjdebokelabDoorHOf
import Derived.Test.YtojlgjdebokelabDoorPLibAx
import Derived.Test.YtojlgjdebokelabDoorWMore
import Derived.Deep.QuietTactic
import Derived.Deep.RegionHeld3
import Derived.StillTailTactics
import Derived.Lib.Hide
import Derived.Outline
set_option linter.unusedVariables false
set_option linter.unusedSimpArgs false
namespace Go.Proofs.YtojlgjdebokelabDoorH
open Go.RowKit Go.Proofs.YtojlgjdebokelabDoorW.PrintWords Go.Proofs.YtojlgjdebokelabDoorW.PrintMore Go.Proofs.YtojlgjdebokelabDoorW
open Go.Proofs.YtojlgjdebokelabDoor.PLibA
def pv (n : Int) : Int := (tuner_pitch.f n).getD 0
theorem pv_any (n : Int) (w : World) : Calls Tryd.prog 22 #[.int .i64 n] w fun e w' => e = .returned (.int .i32 (pv n)) ∧ ∃ k, w' = w.drewN k :=
  (tuner_pitch.calls n (pv n) w rfl).mono fun e w' h => ⟨h.1, h.2.out⟩
/-- How far a note is from a log. -/
def farT (q n : Int) : Int := max (wrap32 (q - pv n)) (wrap32 (-(wrap32 (q - pv n))))
set_option maxRecDepth 100000 in
theorem far_any (q n : Int) (B : Nat) (w : World) (hc : w.cell? ⟨B, 0, none⟩ = some (.int .i32 q)) :
    Calls Tryd.prog 21 #[.int .i64 n, .pointer (some ⟨B, 0, none⟩)] w fun e w' => e = .returned (.int .i32 (farT q n)) ∧ ∃ k, w' = w.drewN k := by
  go_enter Tryd.func21, Tryd.ntmps21
  go_wp2_with fail
  go_quiet ((first | (go_at_call 22; exact Calls.quiet_of (pv_any n _))))
  go_wp2
  go_ret
  exact ⟨by unfold farT; rfl, _, rfl⟩
def nearT (q : Int) : Nat → Nat
  | 0 => 0
  | n + 1 => if farT q n < farT q (nearT q n) then n else nearT q n
structure NtRel (w wr : World) (B : Nat) (q : Int) : Prop where
  box : wr.heap[B]? = some (.cells #[.int .i32 q] 21 (0, 0))
  below : Below w.heap.size w wr
theorem NtRel.drew {w wr : World} {B : Nat} {q : Int} (h : NtRel w wr B q) (n : Nat) : NtRel w (wr.drewN n) B q := ⟨h.box, pw_below_drewN h.below n⟩
set_option maxRecDepth 100000 in
set_option maxHeartbeats 2000000 in
theorem note_440 (w : World) :
    Calls Tryd.prog 12 #[.int .u64 440] w fun e w' => e = .returned (.tuple #[.int .i64 69, .int .i64 0]) ∧ Below w.heap.size w w' := by
  have hlog : Hid (∃ q, logs_Log.f 9 440 = some (q, 0) ∧ nearT q 128 = 69) := by
    have h : ((logs_Log.f 9 440).map fun p => (p.2, nearT p.1 128)) = some (0, 69) := by decide +kernel
    cases hf : logs_Log.f 9 440 with
    | none => rw [hf] at h; cases h
    | some p =>
      rw [hf] at h
      simp only [Option.map_some, Option.some.injEq, Prod.mk.injEq] at h
      exact ⟨p.1, by rw [← h.1], h.2⟩
  obtain ⟨q, hq, hn⟩ := hlog.out
  have HQ := Lib.hid hq
  have HN := Lib.hid hn
  clear hq hn hlog
  go_enter Tryd.func12, Tryd.ntmps12
  go_wp2_with fail
  refine (logs_Log.calls 9 440 _ _ _ HQ.out).mono ?_
  rintro e w1 ⟨rfl, hb⟩
  have h0 : Hid (NtRel w (w1.alloc (.cells #[.int .i32 q] 21)) w1.heap.size q) := ⟨heap_alloc_new w1 _, hb.alloc hb.size _⟩
  clear hb
  go_wp2_with fail
  go_loopg [7, 18] 128 (fun gk s7 s18 wr => ∃ n : Nat, n ≤ 128 ∧ gk = 128 - n ∧ s18 = .int .i64 n ∧ s7 = .int .i64 (nearT q n : Nat) ∧ Hid (NtRel w wr w1.heap.size q))
  case atStart => exact ⟨0, by omega, rfl, rfl, rfl, h0⟩
  case round =>
    clear h0
    obtain ⟨n, hn, rfl, rfl, rfl, hM⟩ := hrel
    by_cases hlt : n < 128
    · have hc : wr.cell? ⟨w1.heap.size, 0, none⟩ = some (.int .i32 q) := blk_cell hM.out.box 0
      have hst : Hid (nearT q (n + 1) = if farT q n < farT q (nearT q n) then n else nearT q n) := rfl
      have c1 : (n : Int) < 128 := by omega
      generalize nearT q n = m at hst ⊢
      go_wp2_with fail
      refine (far_any q n _ wr hc).mono ?_
      rintro e w2 ⟨rfl, k1, rfl⟩
      go_wp2_with fail
      refine (far_any q m _ (wr.drewN k1) hc).mono ?_
      rintro e w2 ⟨rfl, k2, rfl⟩
      have hM2 := Lib.hid (hM.out.drew (k1 + k2))
      generalize farT q n = fa at hst ⊢
      generalize farT q m = fb at hst ⊢
      clear hM hc
      by_cases hlt2 : fa < fb
      · have hd : decide (fa < fb) = true := by simpa using hlt2
        have hst2 : Hid (nearT q (n + 1) = n) := by show _ = _; rw [hst.out, if_pos hlt2]
        go_wp2
        go_roundg (128 - (n + 1))
        case measure => omega
        case rel => exact ⟨n + 1, by omega, rfl, by push_cast; rfl, by rw [hst2.out], hM2.out⟩
      · have hd : decide (fa < fb) = false := by simpa using hlt2
        have hst2 : Hid (nearT q (n + 1) = m) := by show _ = _; rw [hst.out, if_neg hlt2]
        go_wp2
        go_roundg (128 - (n + 1))
        case measure => omega
        case rel => exact ⟨n + 1, by omega, rfl, by push_cast; rfl, by rw [hst2.out], hM2.out⟩
    · obtain rfl : n = 128 := by omega
      rw [HN.out]
      go_wp2
      go_ret2
      exact ⟨rfl, hM.out.below⟩
set_option maxRecDepth 100000 in
theorem small_4 (w : World) : Calls Tryd.prog 39 #[.int .i64 4] w fun e w' => e = .returned (.string ⟨#[52]⟩) ∧ w = w' := by
  go_enter Tryd.func39, Tryd.ntmps39
  go_wp2
  go_ret
  exact ⟨rfl, rfl⟩
set_option maxRecDepth 100000 in
theorem itoa_4 (w : World) : Calls Tryd.prog 24 #[.int .i64 4] w fun e w' => e = .returned (.string ⟨#[52]⟩) ∧ ∃ k, w' = w.drewN k := by
  have hf : ∀ W, Calls Tryd.prog 37 #[.int .i64 4, .int .i64 10] W fun e w' => e = .returned (.string ⟨#[52]⟩) ∧ W = w' := by
    intro W
    go_enter Tryd.func37, Tryd.ntmps37
    go_wp2_with (go_at_call 39; refine (small_4 _).mono ?_; rintro e w' ⟨rfl, rfl⟩)
    go_ret
    exact ⟨rfl, rfl⟩
  have hi : ∀ W, Calls Tryd.prog 32 #[.int .i64 4] W fun e w' => e = .returned (.string ⟨#[52]⟩) ∧ W = w' := by
    intro W
    go_enter Tryd.func32, Tryd.ntmps32
    go_wp2_with (go_at_call 37; refine (hf _).mono ?_; rintro e w' ⟨rfl, rfl⟩)
    go_ret
    exact ⟨rfl, rfl⟩
  go_enter Tryd.func24, Tryd.ntmps24
  go_wp2_with (go_at_call 32; refine (hi _).mono ?_; rintro e w' ⟨rfl, rfl⟩)
  go_ret
  exact ⟨rfl, 0, rfl⟩
set_option maxRecDepth 100000 in
theorem name_128 (w : World) : Calls Tryd.prog 13 #[.int .i64 128] w fun e w' => e = .returned (.tuple #[.string ⟨#[]⟩, .int .i64 1]) ∧ ∃ k, w' = w.drewN k := by
  go_enter Tryd.func13, Tryd.ntmps13
  go_wp2_with fail
  refine (tuner_note.calls 128 false _ rfl).mono ?_
  rintro e w1 ⟨rfl, hd⟩
  obtain ⟨k, rfl⟩ := hd.out
  go_wp2
  go_ret2
  exact ⟨rfl, k, rfl⟩
set_option maxRecDepth 100000 in
set_option maxHeartbeats 2000000 in
theorem name_69 (w : World) : Calls Tryd.prog 13 #[.int .i64 69] w fun e w' => e = .returned (.tuple #[.string ⟨#[65, 52]⟩, .int .i64 0]) ∧ Below w.heap.size w w' := by
  go_enter Tryd.func13, Tryd.ntmps13
  go_wp2_with fail
  refine (tuner_note.calls 69 true _ rfl).mono ?_
  rintro e w1 ⟨rfl, hd⟩
  have HB : Hid (Below w.heap.size w w1) := by obtain ⟨k, rfl⟩ := hd.out; exact pw_below_drewN (Below.refl _ _) k
  clear hd
  go_wp2_with fail
  go_quiet ((go_at_call 24; exact Calls.quiet_of (itoa_4 _)))
  go_wp2_with fail
  go_ret2
  exact ⟨rfl, pw_below_drewN (HB.out.alloc HB.out.size _) _⟩
set_option maxRecDepth 100000 in
set_option maxHeartbeats 2000000 in
theorem alive37_any (w : World) : Calls Tryd.prog 4 #[] w fun e w' => e = .returned (.bool true) ∧ Below w.heap.size w w' := by
  go_enter Tryd.func4, Tryd.ntmps4
  go_wp2_with fail
  refine (note_440 _).mono ?_
  rintro e w1 ⟨rfl, hb1⟩
  have HB := Lib.hid hb1
  clear hb1
  go_wp2_with fail
  refine (name_69 _).mono ?_
  rintro e w2 ⟨rfl, hb1⟩
  replace HB := Lib.hid (below_then HB.out HB.out.size hb1)
  clear hb1
  go_wp2_with fail
  refine (name_128 _).mono ?_
  rintro e w3 ⟨rfl, k, rfl⟩
  go_wp2
  go_ret
  exact ⟨rfl, pw_below_drewN HB.out _⟩
end Go.Proofs.YtojlgjdebokelabDoorH
