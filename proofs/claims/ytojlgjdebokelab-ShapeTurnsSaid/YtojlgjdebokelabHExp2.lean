/- What the reference's Exp answers: two to the power of 256th parts, 'expv'. -/
import Derived.Test.YtojlgjdebokelabPLib1x1
import Derived.Test.YtojlgjdebokelabHExp
namespace Go.Proofs.YtojlgjdebokelabH
open Go.RowKit Go.Proofs.Ytojlgjdebokelab.PLib1 Go.Proofs.YtojlgjdebokelabW.PrintWords

theorem bit_step (q : Int) (i : Nat) (hi : i < 8) : (q % 2 ^ (8 - i) ≥ 2 ^ (7 - i) → q / 2 ^ (7 - i) % 2 = 1 ∧ q % 2 ^ (8 - i) - 2 ^ (7 - i) = q % 2 ^ (7 - i)) ∧
    (¬ q % 2 ^ (8 - i) ≥ 2 ^ (7 - i) → ¬ q / 2 ^ (7 - i) % 2 = 1 ∧ q % 2 ^ (8 - i) = q % 2 ^ (7 - i)) ∧ 0 ≤ q % 2 ^ (8 - i) ∧ q % 2 ^ (8 - i) < 256 ∧ (1 : Int) ≤ 2 ^ (7 - i) ∧ (2 : Int) ^ (7 - i) ≤ 128 := by
  have : i = 0 ∨ i = 1 ∨ i = 2 ∨ i = 3 ∨ i = 4 ∨ i = 5 ∨ i = 6 ∨ i = 7 := by omega
  rcases this with rfl | rfl | rfl | rfl | rfl | rfl | rfl | rfl <;> simp <;> omega
theorem worth_step (i : Nat) (hi : i < 8) : wrap64 (Int.tdiv (2 ^ (7 - i)) 2) = if i = 7 then 0 else 2 ^ (7 - (i + 1)) := by
  have : ∀ i : Fin 8, wrap64 (Int.tdiv (2 ^ (7 - i.val)) 2) = if i.val = 7 then 0 else 2 ^ (7 - (i.val + 1)) := by unfold wrap64; decide +kernel
  exact this ⟨i, hi⟩
def rootl : List Int := [1518500249, 1276901416, 1170923761, 1121280435, 1097253708, 1085434105, 1079572135, 1076653033]
theorem rootl_at (i : Nat) (hi : i < 8) : rd rootl (i : Int) = root i := by
  have : ∀ i : Fin 8, rd rootl (i.val : Int) = root i.val := by decide +kernel
  exact this ⟨i, hi⟩
theorem exp_bits (q e : Int) (d : Nat) : ∀ (k i : Nat), i ≤ 8 → 8 - i = d → d < k →
    ∃ j, k = d + 1 + j ∧ psalteryref02_Exp.l0 k (q % 2 ^ (8 - i)) e (mant q i) rootl (if i = 8 then 0 else 2 ^ (7 - i)) i = psalteryref02_Exp.l1 j e (mant q 8) := by
  induction d with
  | zero =>
    intro k i hi hd hk
    obtain ⟨k, rfl⟩ : ∃ m, k = m + 1 := ⟨k - 1, by omega⟩
    obtain rfl : i = 8 := by omega
    refine ⟨k, by omega, ?_⟩
    simp only [psalteryref02_Exp.l0]
    rw [if_neg (by omega)]
  | succ d ih =>
    intro k i hi hd hk
    obtain ⟨k, rfl⟩ : ∃ m, k = m + 1 := ⟨k - 1, by omega⟩
    have hi8 : i < 8 := by omega
    obtain ⟨j, hj, e1⟩ := ih k (i + 1) (by omega) (by omega) (by omega)
    refine ⟨j, by omega, ?_⟩
    obtain ⟨b1, b2, b3, b4, b5, b6⟩ := bit_step q i hi8
    have hw := worth_step i hi8
    have hw2 : wrap64 (Int.tdiv (2 ^ (7 - i)) 2) = if i + 1 = 8 then 0 else 2 ^ (7 - (i + 1)) := by
      rw [hw]
      by_cases c : i = 7
      · rw [if_pos c, if_pos (by omega)]
      · rw [if_neg c, if_neg (by omega)]
    have hm := mant_bd q i
    have hp := mant_prod q i (by omega)
    rw [← e1]
    simp only [psalteryref02_Exp.l0]
    rw [if_pos (show (i : Int) < 8 by omega), if_neg (show ¬ i = 8 by omega), hw2, w64_in ((i : Int) + 1) (by omega), show 8 - (i + 1) = 7 - i by omega, show ((i : Int) + 1) = ((i + 1 : Nat) : Int) by omega]
    by_cases c : q % 2 ^ (8 - i) ≥ 2 ^ (7 - i)
    · obtain ⟨c1, c2⟩ := b1 c
      rw [if_pos c, if_pos (show (0 : Int) ≤ i by omega), if_pos (by simp [rootl]; omega), c2, rootl_at i hi8, wrap_u64_in (mant q i * root i) (by omega), w64_in (q % 2 ^ (7 - i)) (by omega)]
      rw [show Int.tdiv (mant q i * root i) 1073741824 = mant q i * root i / 1073741824 from Int.tdiv_eq_ediv_of_nonneg hp.1, wrap_u64_in _ (by omega)]
      simp only [mant]
      rw [if_pos c1]
    · obtain ⟨c1, c2⟩ := b2 c
      rw [if_neg c, c2]
      simp only [mant]
      rw [if_neg c1]
theorem exp_double (n : Nat) : ∀ (k : Nat) (y : Int), n ≤ 64 → n < k → 0 ≤ y → y * 2 ^ n ≤ 9223372036854775807 → psalteryref02_Exp.l1 k (14 + n) y = some (y * 2 ^ n, 0) := by
  induction n with
  | zero =>
    intro k y hn hk h0 h1
    obtain ⟨k, rfl⟩ : ∃ m, k = m + 1 := ⟨k - 1, by omega⟩
    simp only [psalteryref02_Exp.l1, psalteryref01_Round.f]
    have h2 : y ≤ 9223372036854775807 := by simpa using h1
    rw [if_neg (by omega), w64_in y (by omega), if_pos (by omega), if_pos (by omega)]
    have : rnd y (wrap64 (14 - (14 + ((0 : Nat) : Int)))) = y := by
      rw [w64_in _ (by omega)]; rfl
    rw [this, Option.bind_some, wrap_u64_in y (by omega)]
    simp
  | succ n ih =>
    intro k y hn hk h0 h1
    obtain ⟨k, rfl⟩ : ∃ m, k = m + 1 := ⟨k - 1, by omega⟩
    have hp := Int.pow_pos (n := 2) (m := n) (by decide)
    have e : y * 2 ^ (n + 1) = y * 2 * 2 ^ n := by rw [Int.pow_succ, Int.mul_assoc, Int.mul_comm (2 ^ n) 2]
    rw [e] at h1 ⊢
    have h3 : y * 2 * 1 ≤ y * 2 * 2 ^ n := Int.mul_le_mul_of_nonneg_left (by omega) (by omega)
    simp only [psalteryref02_Exp.l1]
    rw [if_pos (by omega), wrap_u64_in (y * 2) (by omega), w64_in _ (by omega), show (14 + ((n + 1 : Nat) : Int) - 1) = 14 + (n : Int) by omega]
    exact ih k (y * 2) (by omega) (by omega) (by omega) h1
theorem exp_low (k : Nat) (e y : Int) (he : e < 14) (he2 : -16 ≤ e) (h0 : 0 ≤ y) (h1 : y ≤ 9223372036854775807) : psalteryref02_Exp.l1 (k + 1) e y = some (rnd y (-(e - 14)), 0) := by
  simp only [psalteryref02_Exp.l1, psalteryref01_Round.f]
  rw [if_neg (by omega), w64_in y (by omega), w64_in _ (by omega), if_pos (by omega), if_pos (by omega), Option.bind_some, show 14 - e = -(e - 14) by omega]
  have := rnd_range y (-(e - 14)) h0 h1
  rw [wrap_u64_in _ (by omega)]
theorem refexp_f (q : Int) (h : -4096 ≤ q) (h2 : q ≤ 7680) : psalteryref02_Exp.f 40 q = some (expv q, 0) := by
  unfold psalteryref02_Exp.f
  rw [if_neg (by omega), decide_eq_false (by omega)]
  simp only [psalteryref02_Exp.j0, psalteryref02_roots.f]
  rw [if_neg (by decide), Option.bind_some, w64_in q (by omega), w64_in (q + 4096) (by omega)]
  rw [Int.tmod_eq_emod_of_nonneg (by omega), Int.tdiv_eq_ediv_of_nonneg (by omega), w64_in ((q + 4096) / 256) (by omega), w64_in _ (by omega)]
  obtain ⟨j, hj, e⟩ := exp_bits q ((q + 4096) / 256 - 16) 8 39 0 (by omega) rfl (by omega)
  have e' : psalteryref02_Exp.l0 39 ((q + 4096) % 256) ((q + 4096) / 256 - 16) 1073741824 rootl 128 0 = psalteryref02_Exp.l1 j ((q + 4096) / 256 - 16) (mant q 8) := by
    rw [← e]
    have : (q + 4096) % 256 = q % 2 ^ (8 - 0) := by simp; omega
    rw [this]
    rfl
  show psalteryref02_Exp.l0 39 ((q + 4096) % 256) ((q + 4096) / 256 - 16) 1073741824 rootl 128 0 = _
  rw [e', show (q + 4096) / 256 - 16 = q / 256 by omega]
  have hm := mant8_bd q
  unfold expv
  by_cases c : 14 ≤ q / 256
  · rw [if_pos c]
    have hp := pow_up (q / 256 - 14).toNat (by omega)
    have hb : mant q 8 * 2 ^ (q / 256 - 14).toNat ≤ 2147483647 * 65536 := Int.mul_le_mul hm.2 hp.2 (by omega) (by omega)
    have := exp_double (q / 256 - 14).toNat j (mant q 8) (by omega) (by omega) (by omega) (by omega)
    rw [show (14 + ((q / 256 - 14).toNat : Int)) = q / 256 by omega] at this
    exact this
  · rw [if_neg c]
    obtain ⟨j', rfl⟩ : ∃ m, j = m + 1 := ⟨j - 1, by omega⟩
    exact exp_low j' (q / 256) (mant q 8) (by omega) (by omega) (by omega) (by omega)
/-- The pair that both Exps answer. -/
def expf (q : Int) : Int × Int := if q < -4096 ∨ 7680 < q then (0, 1) else (expv q, 0)
theorem refexp_all (q : Int) : psalteryref02_Exp.f 40 q = some (expf q) := by
  unfold expf
  by_cases h : q < -4096 ∨ 7680 < q
  · rw [if_pos h]
    unfold psalteryref02_Exp.f
    by_cases c : q < -4096
    · rw [if_pos c]; rfl
    · rw [if_neg c, decide_eq_true (show q > 7680 by omega)]; rfl
  · rw [if_neg h]
    exact refexp_f q (by omega) (by omega)
theorem refexp_any (q : Int) (w : World) :
    Calls Try.prog 73 #[.int .i32 q] w fun e w' => e = .returned (.tuple #[.int .u64 (expf q).1, .int .i64 (expf q).2]) ∧ Below w.heap.size w w' :=
  psalteryref02_Exp.calls 40 q _ _ w (refexp_all q)
theorem exp_any (q : Int) (w : World) :
    Calls Try.prog 82 #[.int .i32 q] w fun e w' => e = .returned (.tuple #[.int .u64 (expf q).1, .int .i64 (expf q).2]) ∧ ∃ k, w' = w.drewN k := by
  unfold expf
  by_cases h : q < -4096 ∨ 7680 < q
  · rw [if_pos h]
    exact (exp_no q w h).mono fun _ _ hh => ⟨hh.1, 0, hh.2.symm⟩
  · rw [if_neg h]
    exact exp_yes q w (by omega) (by omega)
end Go.Proofs.YtojlgjdebokelabH
