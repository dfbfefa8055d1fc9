/- What logs.Exp answers: two to the power of 256th parts, 'expv'. -/
import Derived.Test.YtojlgjdebokelabHRound
import Derived.Test.YtojlgjdebokelabHPure
namespace Go.Proofs.YtojlgjdebokelabH
open Go.RowKit

/-- The roots of two. -/
def root (k : Nat) : Int := match k with | 0 => 1518500249 | 1 => 1276901416 | 2 => 1170923761 | 3 => 1121280435 | 4 => 1097253708 | 5 => 1085434105 | 6 => 1079572135 | _ => 1076653033
/-- Two to the power of the first k bits of q's last eight. -/
def mant (q : Int) : Nat → Int
  | 0 => 1073741824
  | k + 1 => if q / 2 ^ (7 - k) % 2 = 1 then mant q k * root k / 1073741824 else mant q k
/-- an upper bound of it -/
def mtop : Nat → Int
  | 0 => 1073741824
  | k + 1 => mtop k * root k / 1073741824
theorem root_bd (k : Nat) : 1073741824 ≤ root k ∧ root k ≤ 1518500249 := by
  unfold root; split <;> decide
theorem mant_bd (q : Int) (k : Nat) : 1073741824 ≤ mant q k ∧ mant q k ≤ mtop k := by
  induction k with
  | zero => simp only [mant, mtop]; omega
  | succ k ih =>
    have hr := root_bd k
    have h1 : 1073741824 * 1073741824 ≤ mant q k * root k := Int.mul_le_mul ih.1 hr.1 (by omega) (by omega)
    have h2 : mant q k * root k ≤ mtop k * root k := Int.mul_le_mul_of_nonneg_right ih.2 (by omega)
    have h3 : mtop k * 1073741824 ≤ mtop k * root k := Int.mul_le_mul_of_nonneg_left hr.1 (by omega)
    simp only [mant, mtop]
    split <;> omega
theorem mtop_mono (k : Nat) (h : k ≤ 8) : mtop k ≤ 2147483647 := by
  have : ∀ k : Fin 9, mtop k.val ≤ 2147483647 := by decide +kernel
  exact this ⟨k, by omega⟩
theorem mant_prod (q : Int) (k : Nat) (h : k ≤ 8) : 0 ≤ mant q k * root k ∧ mant q k * root k ≤ 3260954456333195903 := by
  have hm := mant_bd q k
  have ht := mtop_mono k h
  have hr := root_bd k
  refine ⟨Int.mul_nonneg (by omega) (by omega), ?_⟩
  have : mant q k * root k ≤ 2147483647 * 1518500249 := Int.mul_le_mul (by omega) hr.2 (by omega) (by omega)
  omega
theorem and_one_i32 (x : Int) : bits .and .i32 x 1 = x % 2 := by
  show IntKind.i32.wrap ((BitVec.ofInt 32 x &&& BitVec.ofInt 32 1).toNat : Int) = _
  rw [BitVec.toNat_and]
  have e1 : (BitVec.ofInt 32 (1 : Int)).toNat = 1 := by decide
  rw [e1, Nat.and_one_is_mod, IntKind.wrap_i32, BitVec.toNat_ofInt]
  have h2 : ((x % ((2 ^ 32 : Nat) : Int)).toNat : Int) = x % 4294967296 := by
    rw [Int.toNat_of_nonneg (Int.emod_nonneg _ (by decide))]; rfl
  omega
theorem roots_at (k : Nat) (hk : k < 8) : ∀ w : World, (Instr.index 158 (.agg #[.int .u64 1518500249, .int .u64 1276901416, .int .u64 1170923761, .int .u64 1121280435, .int .u64 1097253708, .int .u64 1085434105, .int .u64 1079572135, .int .u64 1076653033]) (.int .i64 k)).run Try.prog w = .ok (.int .u64 (root k)) w := by
  have i0 : ∀ w : World, (Instr.index 158 (.agg #[.int .u64 1518500249, .int .u64 1276901416, .int .u64 1170923761, .int .u64 1121280435, .int .u64 1097253708, .int .u64 1085434105, .int .u64 1079572135, .int .u64 1076653033]) (.int .i64 0)).run Try.prog w = .ok (.int .u64 1518500249) w := fun _ => by kernel_rfl
  have i1 : ∀ w : World, (Instr.index 158 (.agg #[.int .u64 1518500249, .int .u64 1276901416, .int .u64 1170923761, .int .u64 1121280435, .int .u64 1097253708, .int .u64 1085434105, .int .u64 1079572135, .int .u64 1076653033]) (.int .i64 1)).run Try.prog w = .ok (.int .u64 1276901416) w := fun _ => by kernel_rfl
  have i2 : ∀ w : World, (Instr.index 158 (.agg #[.int .u64 1518500249, .int .u64 1276901416, .int .u64 1170923761, .int .u64 1121280435, .int .u64 1097253708, .int .u64 1085434105, .int .u64 1079572135, .int .u64 1076653033]) (.int .i64 2)).run Try.prog w = .ok (.int .u64 1170923761) w := fun _ => by kernel_rfl
  have i3 : ∀ w : World, (Instr.index 158 (.agg #[.int .u64 1518500249, .int .u64 1276901416, .int .u64 1170923761, .int .u64 1121280435, .int .u64 1097253708, .int .u64 1085434105, .int .u64 1079572135, .int .u64 1076653033]) (.int .i64 3)).run Try.prog w = .ok (.int .u64 1121280435) w := fun _ => by kernel_rfl
  have i4 : ∀ w : World, (Instr.index 158 (.agg #[.int .u64 1518500249, .int .u64 1276901416, .int .u64 1170923761, .int .u64 1121280435, .int .u64 1097253708, .int .u64 1085434105, .int .u64 1079572135, .int .u64 1076653033]) (.int .i64 4)).run Try.prog w = .ok (.int .u64 1097253708) w := fun _ => by kernel_rfl
  have i5 : ∀ w : World, (Instr.index 158 (.agg #[.int .u64 1518500249, .int .u64 1276901416, .int .u64 1170923761, .int .u64 1121280435, .int .u64 1097253708, .int .u64 1085434105, .int .u64 1079572135, .int .u64 1076653033]) (.int .i64 5)).run Try.prog w = .ok (.int .u64 1085434105) w := fun _ => by kernel_rfl
  have i6 : ∀ w : World, (Instr.index 158 (.agg #[.int .u64 1518500249, .int .u64 1276901416, .int .u64 1170923761, .int .u64 1121280435, .int .u64 1097253708, .int .u64 1085434105, .int .u64 1079572135, .int .u64 1076653033]) (.int .i64 6)).run Try.prog w = .ok (.int .u64 1079572135) w := fun _ => by kernel_rfl
  have i7 : ∀ w : World, (Instr.index 158 (.agg #[.int .u64 1518500249, .int .u64 1276901416, .int .u64 1170923761, .int .u64 1121280435, .int .u64 1097253708, .int .u64 1085434105, .int .u64 1079572135, .int .u64 1076653033]) (.int .i64 7)).run Try.prog w = .ok (.int .u64 1076653033) w := fun _ => by kernel_rfl
  intro w
  match k, hk with
  | 0, _ => exact i0 w
  | 1, _ => exact i1 w
  | 2, _ => exact i2 w
  | 3, _ => exact i3 w
  | 4, _ => exact i4 w
  | 5, _ => exact i5 w
  | 6, _ => exact i6 w
  | 7, _ => exact i7 w
/-- Two to the power of q 256th parts. -/
def expv (q : Int) : Int := if 14 ≤ q / 256 then mant q 8 * 2 ^ (q / 256 - 14).toNat else rnd (mant q 8) (-(q / 256 - 14))
theorem pow_up (n : Nat) (h : n ≤ 16) : 1 ≤ (2 : Int) ^ n ∧ (2 : Int) ^ n ≤ 65536 := by
  have : ∀ n : Fin 17, 1 ≤ (2 : Int) ^ n.val ∧ (2 : Int) ^ n.val ≤ 65536 := by decide +kernel
  exact this ⟨n, by omega⟩
theorem mant8_bd (q : Int) : 1073741824 ≤ mant q 8 ∧ mant q 8 ≤ 2147483647 := by
  have h := mant_bd q 8
  have := mtop_mono 8 (by omega)
  omega
theorem wrap_u64_in (n : Int) (h : 0 ≤ n ∧ n ≤ 18446744073709551615) : IntKind.u64.wrap n = n := by
  simp only [IntKind.wrap, IntKind.bits, IntKind.signed]; simp; omega
theorem rnd_range (n s : Int) (h : 0 ≤ n) (h1 : n ≤ 9223372036854775807) : 0 ≤ rnd n s ∧ rnd n s ≤ n := by
  unfold rnd
  by_cases c : s ≤ 0
  · rw [if_pos c]; omega
  · rw [if_neg c]
    by_cases c2 : 62 ≤ s
    · rw [if_pos c2]; omega
    · rw [if_neg c2]
      have hp : 1 ≤ (2 : Int) ^ (s.toNat - 1) := by
        have := Int.pow_pos (n := 2) (m := s.toNat - 1) (by decide); omega
      have h3 : 0 ≤ n / 2 ^ (s.toNat - 1) := Int.ediv_nonneg h (by omega)
      have h4 : n / 2 ^ (s.toNat - 1) ≤ n := Int.ediv_le_self _ h
      omega
theorem expv_up (q : Int) (h : 14 ≤ q / 256) (h2 : q ≤ 7680) : IntKind.u64.wrap (mant q 8 * 2 ^ (q / 256 - 14).toNat) = expv q := by
  unfold expv
  rw [if_pos h]
  have hm := mant8_bd q
  have hp := pow_up (q / 256 - 14).toNat (by omega)
  refine wrap_u64_in _ ⟨Int.mul_nonneg (by omega) (by omega), ?_⟩
  have : mant q 8 * 2 ^ (q / 256 - 14).toNat ≤ 2147483647 * 65536 := Int.mul_le_mul hm.2 hp.2 (by omega) (by omega)
  omega
theorem ret_pair {k l : IntKind} {a b c : Int} (h : a = b) : Ending.returned (.tuple #[.int k a, .int l c]) = .returned (.tuple #[.int k b, .int l c]) := by rw [h]
set_option maxHeartbeats 2000000 in
theorem exp_no (q : Int) (w : World) (h : q < -4096 ∨ 7680 < q) :
    Calls Try.prog 82 #[.int .i32 q] w fun e w' => e = .returned (.tuple #[.int .u64 0, .int .i64 1]) ∧ w = w' := by
  rcases h with h | h
  · go_enter Try.func82, Try.ntmps82
    go_wp2
    go_ret2
    exact ⟨rfl, rfl⟩
  · have h' : ¬ q < -4096 := by omega
    go_enter Try.func82, Try.ntmps82
    go_wp2
    go_ret2
    exact ⟨rfl, rfl⟩
set_option maxHeartbeats 2000000 in
theorem exp_yes (q : Int) (w : World) (h : -4096 ≤ q) (h2 : q ≤ 7680) :
    Calls Try.prog 82 #[.int .i32 q] w fun e w' => e = .returned (.tuple #[.int .u64 (expv q), .int .i64 0]) ∧ ∃ k, w' = w.drewN k := by
  have hn1 : decide (q < -4096) = false := by simpa using h
  have hn2 : decide (7680 < q) = false := by simpa using h2
  go_enter Try.func82, Try.ntmps82
  go_wp2
  go_loop [4, 15] (fun y i => ∃ k : Nat, k ≤ 8 ∧ i = .int .i64 k ∧ y = .int .u64 (mant q k)) (fun _ i => 8 - (intOf i).toNat)
  case atStart => exact ⟨0, by omega, rfl, rfl⟩
  case round =>
    obtain ⟨k, hk, rfl, rfl⟩ := hrel
    by_cases hlt : k < 8
    · have hix := roots_at k hlt
      have hm := mant_bd q k
      have hp := mant_prod q k hk
      have ha := and_one_i32 (q / 2 ^ (7 - k))
      go_wp2
      · go_round
        case rel =>
          have hb : (q / 2 ^ (7 - k) % 2 == 1) = true := by assumption
          exact ⟨k + 1, by omega, by go_num, by simp only [mant]; rw [if_pos (by simpa using hb)]⟩
        case measure => simp [intOf]; omega
      · go_round
        case rel =>
          have hb : (q / 2 ^ (7 - k) % 2 == 1) = false := by assumption
          exact ⟨k + 1, by omega, by go_num, by simp only [mant]; rw [if_neg (by simpa using hb)]⟩
        case measure => simp [intOf]; omega
    · have hk8 : k = 8 := by omega
      have hm := mant8_bd q
      by_cases c : 14 ≤ q / 256
      · have Hq := Lib.hid (expv_up q c h2)
        go_wp2
        go_ret2
        exact ⟨ret_pair Hq.out, 0, rfl⟩
      · have hr := rnd_range (mant q 8) (-(q / 256 - 14)) (by omega) (by omega)
        have Hq := Lib.hid (show rnd (mant q 8) (-(q / 256 - 14)) = expv q by unfold expv; rw [if_neg c])
        have c' : q / 256 < 14 := by omega
        clear c
        go_wp2_with (go_at_call 46; refine (fixround_any _ _ _ (by omega)).mono ?_; rintro e w' ⟨rfl, nk, rfl⟩)
        go_ret2
        exact ⟨ret_pair Hq.out, _, rfl⟩
end Go.Proofs.YtojlgjdebokelabH
