/- What mixer.Resample answers for the two calls of the law's example: nothing where the rate can't be, and twice as many numbers. -/
import Derived.Test.YtojlgjdebokelaaHMix

set_option linter.unusedVariables false
namespace Go.Proofs.YtojlgjdebokelaaH
open Go.RowKit Go.Proofs.YtojlgjdebokelaaW.PrintWords Go.Proofs.YtojlgjdebokelaaW.PrintMore

structure Fill1 (N B : Nat) (f : Int → Int) (Aa : Option Addr) (na ca : Nat) (w wr : World) (k : Nat) : Prop where
  row : Kd.R (Kd.int .i16) 22 wr B (fun _ => True) (.slice (some ⟨B, 0, none⟩) N N) (mix k N f)
  boxa : wr.heap[B + 1]? = some (.cells #[.slice Aa na ca] 31 (0, 0))
  below : Below B w wr
theorem Fill1.start (N : Nat) (hN : N ≤ 20000) (f : Int → Int) (Aa : Option Addr) (na ca : Nat) (w : World) :
    Fill1 N w.heap.size f Aa na ca w ((w.alloc (.cells (madeCells #[.int .i16 0] N) 22)).alloc (.cells #[.slice Aa na ca] 31)) 0 := by
  have h1 := R_made w w.heap.size (Nat.le_refl _) N (by omega)
  have b1 : Below w.heap.size w (w.alloc (.cells (madeCells #[.int .i16 0] N) 22)) := (Below.refl _ _).alloc (Nat.le_refl _) _
  refine ⟨?_, ?_, ?_⟩
  · rw [mix_zero]
    exact Kd.R_alloc h1 _
  · have := heap_alloc_new (w.alloc (.cells (madeCells #[.int .i16 0] N) 22)) (.cells #[.slice Aa na ca] 31)
    rw [alloc_size] at this
    exact this
  · exact b1.alloc (by simp) _
theorem Fill1.cell {N B : Nat} {f : Int → Int} {Aa : Option Addr} {na ca : Nat} {w wr : World} {k : Nat} (h : Fill1 N B f Aa na ca w wr k) (hk : k < N) :
    (∃ u, wr.cell? ⟨B, k, none⟩ = some (.int .i16 u)) ∧ wr.frozen? ⟨B, k, none⟩ = false := by
  have := Kd.R_celln (0 : Int) h.row (k : Int) (by omega) (by omega)
  rw [Int.toNat_natCast] at this
  exact ⟨⟨_, this.1⟩, this.2⟩
theorem Fill1.drew {N B : Nat} {f : Int → Int} {Aa : Option Addr} {na ca : Nat} {w wr : World} {k : Nat} (h : Fill1 N B f Aa na ca w wr k) (n : Nat) : Fill1 N B f Aa na ca w (wr.drewN n) k :=
  ⟨Kd.R_drewN h.row n, h.boxa, pw_below_drewN h.below n⟩
theorem Fill1.step {N B : Nat} {f : Int → Int} {Aa : Option Addr} {na ca : Nat} {w wr : World} {k : Nat} (h : Fill1 N B f Aa na ca w wr k) (hk : k < N) (n : Nat) (v : Int) (hv : v = f k) :
    Fill1 N B f Aa na ca w ((wr.setCell ⟨B, k, none⟩ (.int .i16 v)).drewN n) (k + 1) := by
  refine ⟨?_, ?_, ?_⟩
  · have := Kd.R_putn (Kd.R_drewN h.row n) (k : Int) v
    rw [Int.toNat_natCast, mix_set k N f hk v hv] at this
    exact this
  · exact (Below.heap_setCell _ _ _ _ (by simp)).trans h.boxa
  · exact pw_below_drewN (h.below.setCell (by simp) _) n
/-- Twice as many numbers, between those of l. -/
def resv (l : List Int) (j : Int) : Int := clamp ((atv l (j / 2) * (2 - j % 2) + atv l (j / 2 + 1) * (j % 2) + 1) / 2) (-32768) 32767
theorem resample_no (A : Option Addr) (n c : Nat) (up down : Int) (w : World) (hu : up < 1) :
    Calls Try.prog 60 #[.slice A n c, .int .i64 up, .int .i64 down] w fun e w' => e = .returned (.tuple #[.slice none 0 0, .int .i64 1]) ∧ w = w' := by
  go_enter Try.func60, Try.ntmps60
  go_wp2
  go_ret2
  exact ⟨rfl, rfl⟩
set_option maxRecDepth 100000 in
set_option maxHeartbeats 2000000 in
theorem resample_twice (A : Option Addr) (c : Nat) (l : List Int) (w : World) (hr : Kd.C (Kd.int .i16) w A l.length l) (hc : l.length ≤ c) (hl : ∀ x ∈ l, 0 ≤ x ∧ x ≤ 32767) (nl : l.length ≤ 4096) :
    Calls Try.prog 60 #[.slice A l.length c, .int .i64 2, .int .i64 1] w fun e w' => ∃ v : Value, e = .returned (.tuple #[v, .int .i64 0]) ∧ Kd.R (Kd.int .i16) 22 w' w.heap.size (fun _ => True) v (tab (l.length * 2) (resv l)) ∧ Below w.heap.size w w' := by
  have hmk : ∀ W : World, (Instr.makeSlice 31 (.int .i64 ((l.length : Int) * 2)) (.int .i64 ((l.length : Int) * 2))).run Try.prog W = .ok (.slice (some ⟨W.heap.size, 0, none⟩) (l.length * 2) (l.length * 2)) (W.alloc (.cells (madeCells #[.int .i16 0] (l.length * 2)) 22)) := by
    have h := print_make 31 22 .i16 2 Try.underlying31 info22 (by decide) (l.length * 2) (by omega)
    intro W
    have := h W
    rwa [show ((l.length * 2 : Nat) : Int) = (l.length : Int) * 2 by omega] at this
  have Hr := Lib.hid hr
  have Hl := Lib.hid hl
  have Hl2 := Lib.hid (show ∀ x ∈ l, -32768 ≤ x ∧ x ≤ 32767 from fun x hx => by have := hl x hx; omega)
  clear hr hl
  have ha0 : ∀ i : Int, 0 ≤ i → 0 ≤ atv l i ∧ atv l i ≤ 32767 := by
    intro i hi
    unfold atv
    by_cases h : i < (l.length : Int)
    · rw [if_pos h]; exact Hl.out _ (rd_mem l i hi h)
    · rw [if_neg h]; omega
  have Ha0 := Lib.hid ha0
  clear ha0
  go_enter Try.func60, Try.ntmps60
  go_wp2_with (go_at_call 62; refine (of_any _ _ _ _).mono ?_; rintro e w' ⟨rfl, rfl⟩)
  go_loopw [45] (fun i wr => ∃ k : Nat, k ≤ l.length * 2 ∧ i = .int .i64 k ∧ Fill1 (l.length * 2) w.heap.size (resv l) A l.length c w wr k) (fun i _ => l.length * 2 - (intOf i).toNat)
  case atStart => exact ⟨0, by omega, rfl, Fill1.start _ (by omega) _ _ _ _ _⟩
  case round =>
    obtain ⟨k, hk, rfl, hF⟩ := hrel
    by_cases hlt : k < l.length * 2
    · have pa := Ha0.out ((k : Int) / 2) (by omega)
      have pb := Ha0.out ((k : Int) / 2 + 1) (by omega)
      have hm : (k : Int) % 2 = 0 ∨ (k : Int) % 2 = 1 := by omega
      have p1 : 0 ≤ atv l ((k : Int) / 2) * (2 - (k : Int) % 2) ∧ atv l ((k : Int) / 2) * (2 - (k : Int) % 2) ≤ 65534 := by
        rcases hm with h | h <;> rw [h] <;> omega
      have p2 : 0 ≤ atv l ((k : Int) / 2 + 1) * ((k : Int) % 2) ∧ atv l ((k : Int) / 2 + 1) * ((k : Int) % 2) ≤ 32767 := by
        rcases hm with h | h <;> rw [h] <;> omega
      clear hm
      obtain ⟨⟨u, hcell⟩, hfz⟩ := hF.cell hlt
      go_wp2_with fail
      go_quiet (fail)
      go_wp2_with fail
      refine (of1_any _ _ _ l ((k : Int) / 2) _ (hF.drew nq).boxa (Kd.C_below Hr.out (hF.drew nq).below) (by omega) Hl2.out).mono ?_
      rintro e w' ⟨rfl, rfl⟩
      go_wp2_with fail
      refine (of1_any _ _ _ l ((k : Int) / 2 + 1) _ (hF.drew nq).boxa (Kd.C_below Hr.out (hF.drew nq).below) (by omega) Hl2.out).mono ?_
      rintro e w' ⟨rfl, rfl⟩
      go_wp2_with (go_at_call 73; refine (sat16_any _ _).mono ?_; rintro e w' ⟨rfl, rfl⟩)
      go_roundw
      case rel => exact ⟨k + 1, by omega, by go_num, hF.step hlt nq _ rfl⟩
      case measure => simp [intOf]; omega
    · have hkk : k = l.length * 2 := by omega
      subst hkk
      go_wp2
      go_ret2
      exact ⟨_, rfl, by have := hF.row; rw [mix_full] at this; exact this, hF.below⟩
end Go.Proofs.YtojlgjdebokelaaH
