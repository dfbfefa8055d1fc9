/- Plain words on numbers: rounding by bits, division downwards. No program in sight. -/
import Derived.RowKit
import Derived.WalkKit
import Derived.Laws.BitsLemmas
namespace Go.Proofs.YtojlgjdebokelabDoorH
open Go.RowKit

/-- n rounded by s bits, s held within 0 and 62. -/
def rnd (n s : Int) : Int := if s ≤ 0 then n else if 62 ≤ s then (n / 2305843009213693952 + 1) / 2 else (n / ((2 : Int) ^ (s.toNat - 1)) + 1) / 2

theorem tdiv_neg_of_tmod {n d : Int} (hd : 1 ≤ d) (c : Int.tmod n d < 0) : n / d = n.tdiv d - 1 := by
  have h1 := Int.tmod_add_mul_tdiv n d   -- n.tmod d + d * tdiv = n
  have h2 : -d < n.tmod d := by have := Int.lt_tmod_of_pos n (b := d) (by omega); omega
  rw [Int.ediv_eq_iff_of_pos (by omega)]
  have e : d * (n.tdiv d - 1) = d * n.tdiv d - d := by rw [Int.mul_sub, Int.mul_one]
  have e' : (n.tdiv d - 1) * d = d * n.tdiv d - d := by rw [Int.mul_comm]; exact e
  have e2 : (n.tdiv d - 1 + 1) * d = d * n.tdiv d := by rw [Int.sub_add_cancel, Int.mul_comm]
  constructor <;> omega
theorem tdiv_of_tmod_nonneg {n d : Int} (hd : 1 ≤ d) (c : ¬ Int.tmod n d < 0) : n / d = n.tdiv d := by
  have h1 := Int.tmod_add_mul_tdiv n d
  have h2 : n.tmod d < d := Int.tmod_lt_of_pos n (by omega)
  rw [Int.ediv_eq_iff_of_pos (by omega)]
  have e' : n.tdiv d * d = d * n.tdiv d := Int.mul_comm _ _
  have e2 : (n.tdiv d + 1) * d = d * n.tdiv d + d := by rw [Int.add_mul, Int.one_mul, Int.mul_comm]
  constructor <;> omega
theorem div_le_self {n d : Int} (hd : 1 ≤ d) (hn : -9223372036854775808 ≤ n ∧ n ≤ 9223372036854775807) : -9223372036854775808 ≤ n / d ∧ n / d ≤ 9223372036854775807 := by
  constructor
  · rw [Int.le_ediv_iff_mul_le (by omega)]
    have : (1 : Int) * 9223372036854775808 ≤ d * 9223372036854775808 := Int.mul_le_mul_of_nonneg_right hd (by omega)
    omega
  · have : n / d < 9223372036854775807 + 1 := by
      rw [Int.ediv_lt_iff_lt_mul (by omega)]
      have : (1 : Int) * 9223372036854775808 ≤ d * 9223372036854775808 := Int.mul_le_mul_of_nonneg_right hd (by omega)
      omega
    omega
theorem ret_int {k : IntKind} {a b : Int} (h : a = b) : Ending.returned (.int k a) = .returned (.int k b) := by rw [h]
theorem pow_of (s : Int) (h1 : 1 ≤ s) (h2 : s ≤ 62) : wrap64 (2 ^ (s.toNat - 1)) = 2 ^ (s.toNat - 1) ∧ 1 ≤ (2 : Int) ^ (s.toNat - 1) := by
  obtain ⟨k, hk⟩ : ∃ k : Nat, s.toNat - 1 = k := ⟨_, rfl⟩
  have hk2 : k ≤ 61 := by omega
  rw [hk]
  have : ∀ k : Fin 62, wrap64 (2 ^ k.val) = 2 ^ k.val ∧ 1 ≤ (2 : Int) ^ k.val := by unfold wrap64; decide +kernel
  exact this ⟨k, by omega⟩
theorem halve (q : Int) : q / 2 + (q - 2 * (q / 2)) = (q + 1) / 2 := by omega


/-- n held within lo and hi. -/
def clamp (n lo hi : Int) : Int := if n < lo then lo else if n > hi then hi else n
theorem and_one_i64 (x : Int) : bits .and .i64 x 1 = x % 2 := by
  show IntKind.i64.wrap ((BitVec.ofInt 64 x &&& BitVec.ofInt 64 1).toNat : Int) = _
  rw [BitVec.toNat_and]
  have e1 : (BitVec.ofInt 64 (1 : Int)).toNat = 1 := by decide
  rw [e1, Nat.and_one_is_mod, IntKind.wrap_i64, BitVec.toNat_ofInt]
  have h2 : ((x % ((2 ^ 64 : Nat) : Int)).toNat : Int) = x % 18446744073709551616 := by
    rw [Int.toNat_of_nonneg (Int.emod_nonneg _ (by decide))]; rfl
  omega
theorem rnd_eq (n s : Int) (h1 : 1 ≤ s) (h2 : s ≤ 62) (hn : -9223372036854775808 ≤ n ∧ n ≤ 9223372036854775807) :
    wrap64 (n / 2 ^ s.toNat + bits .and .i64 (n / 2 ^ (s.toNat - 1)) 1) = rnd n s := by
  have hr : rnd n s = (n / (2 ^ (s.toNat - 1)) + 1) / 2 := by
    unfold rnd
    rw [if_neg (by omega)]
    by_cases c : 62 ≤ s
    · rw [if_pos c]
      have : s = 62 := by omega
      subst this; rfl
    · rw [if_neg c]
  rw [hr, and_one_i64]
  obtain ⟨k, hk⟩ : ∃ k : Nat, s.toNat = k + 1 := ⟨s.toNat - 1, by omega⟩
  have hp := (pow_of s h1 h2).2
  rw [hk] at hp ⊢
  simp only [Nat.add_sub_cancel] at hp ⊢
  rw [Int.pow_succ, ← Int.ediv_ediv_of_nonneg (by omega)]
  have hb := div_le_self hp hn
  generalize n / 2 ^ k = q at *
  unfold wrap64
  omega

end Go.Proofs.YtojlgjdebokelabDoorH
