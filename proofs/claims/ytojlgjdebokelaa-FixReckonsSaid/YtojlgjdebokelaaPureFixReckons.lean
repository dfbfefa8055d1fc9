/- psalterylaw01.FixReckons answers true for every input: fix's sums, differences and products are the reference's, saturated, and so is how often a number may be doubled. No condition: every a, b of int32, every c of int16. -/
import Derived.Test.YtojlgjdebokelaaPFixReckonsx1
import Derived.Lib.BitFns
namespace Go.Proofs.Ytojlgjdebokelaa.Pure
open Go.RowKit Go.Proofs.Ytojlgjdebokelaa.PFixReckons Go.Proofs.YtojlgjdebokelaaW.PrintWords Go.Proofs.YtojlgjdebokelaaW.PrintLast
open Go.Proofs.YtojlgjdebokelaaH (rnd clamp)

theorem w64_range (n : Int) : -9223372036854775808 ≤ wrap64 n ∧ wrap64 n ≤ 9223372036854775807 := by unfold wrap64; omega
theorem w64_in (n : Int) (h : -9223372036854775808 ≤ n ∧ n ≤ 9223372036854775807) : wrap64 n = n := by unfold wrap64; omega
theorem w32_in (n : Int) (h : -2147483648 ≤ n ∧ n ≤ 2147483647) : wrap32 n = n := by unfold wrap32; omega
theorem clamp_in (n lo hi : Int) (h : lo ≤ hi) : lo ≤ clamp n lo hi ∧ clamp n lo hi ≤ hi := by
  unfold clamp
  split
  · omega
  · split <;> omega
theorem round_f (n s : Int) : fix_Round.f (wrap64 n) s = some (rnd (wrap64 n) s) := by
  unfold fix_Round.f
  rw [if_pos (w64_range n).1, if_pos (w64_range n).2]
theorem ref_round_f (n s : Int) : psalteryref01_Round.f (wrap64 n) s = some (rnd (wrap64 n) s) := by
  unfold psalteryref01_Round.f
  rw [if_pos (w64_range n).1, if_pos (w64_range n).2]
theorem alive_f : psalterylaw01_alive.f = some true := by decide +kernel
theorem add_f (a b : Int) : fix_Add.f a b = some (clamp (wrap64 (wrap64 a + wrap64 b)) (-2147483648) 2147483647) := rfl
theorem sub_f (a b : Int) : fix_Sub.f a b = some (clamp (wrap64 (wrap64 a - wrap64 b)) (-2147483648) 2147483647) := rfl
theorem sat_f (n : Int) : psalteryref01_Sat.f n 32 = some (clamp n (-2147483648) 2147483647) := rfl
theorem mul15_f (a b : Int) : fix_Mul15.f a b = some (clamp (rnd (wrap64 (wrap64 a * wrap64 b)) 15) (-2147483648) 2147483647) := by
  unfold fix_Mul15.f
  rw [round_f]; rfl
theorem mul31_f (a b : Int) : fix_Mul31.f a b = some (clamp (rnd (wrap64 (wrap64 a * wrap64 b)) 31) (-2147483648) 2147483647) := by
  unfold fix_Mul31.f
  rw [round_f]; rfl
theorem mul_f (a b s : Int) : psalteryref01_Mul.f a b s = some (clamp (rnd (wrap64 (a * b)) s) (-2147483648) 2147483647) := by
  unfold psalteryref01_Mul.f
  rw [ref_round_f, Option.bind_some, sat_f, Option.bind_some, w32_in _ (clamp_in _ _ _ (by decide))]

/-- A number without its sign. -/
def size (x : Int) : Nat := if 0 ≤ x then x.toNat else (-x - 1).toNat
theorem size_xor (x : Int) (h : -2147483648 ≤ x ∧ x ≤ 2147483647) : Go.bits .xor .i32 x (x / 2147483648) % 4294967296 = (size x : Int) := by
  unfold size
  by_cases c : 0 ≤ x
  · rw [if_pos c, show x / 2147483648 = 0 by omega]
    show IntKind.i32.wrap ((BitVec.ofInt 32 x ^^^ BitVec.ofInt 32 0).toNat : Int) % 4294967296 = _
    rw [show (BitVec.ofInt 32 0) = 0#32 from rfl, BitVec.xor_zero, IntKind.wrap_i32, BitVec.toNat_ofInt]
    have e : ((x % ((2 ^ 32 : Nat) : Int)).toNat : Int) = x % 4294967296 := by
      rw [Int.toNat_of_nonneg (Int.emod_nonneg _ (by decide))]; rfl
    omega
  · rw [if_neg c, show x / 2147483648 = -1 by omega]
    show IntKind.i32.wrap ((BitVec.ofInt 32 x ^^^ BitVec.ofInt 32 (-1)).toNat : Int) % 4294967296 = _
    rw [show (BitVec.ofInt 32 (-1)) = BitVec.allOnes 32 by decide, BitVec.xor_allOnes, IntKind.wrap_i32, BitVec.toNat_not, BitVec.toNat_ofInt]
    have e : ((x % ((2 ^ 32 : Nat) : Int)).toNat : Int) = x % 4294967296 := by
      rw [Int.toNat_of_nonneg (Int.emod_nonneg _ (by decide))]; rfl
    omega
theorem bitLen_31 (m : Nat) (h : m < 2147483648) : Lib.bitLen m ≤ 31 := Lib.bitLen_le m 31 (by decide) h
theorem bitLen_low (m : Nat) (h : m < 1073741824) : Lib.bitLen m ≤ 30 := Lib.bitLen_le m 30 (by decide) h
theorem bitLen_top (m : Nat) (h : 1073741824 ≤ m) (h2 : m < 2147483648) : Lib.bitLen m = 31 := by
  have e := Lib.bitLen_shift 30 m h (by omega)
  rw [show m / 2 ^ 30 = 1 by omega] at e
  rw [e]; decide
theorem spare_f (x : Int) (h : -2147483648 ≤ x ∧ x ≤ 2147483647) (h0 : x ≠ 0) : fix_Spare.f x = some (31 - (Lib.bitLen (size x) : Int)) := by
  unfold fix_Spare.f
  rw [if_neg h0, size_xor x h]
  unfold bits_LeadingZeros32.f bits_Len32.f
  have hs : size x < 2147483648 := by unfold size; split <;> omega
  have hb := bitLen_31 (size x) hs
  rw [if_pos (by omega), if_pos (by omega)]
  simp only [Option.bind_some, Int.toNat_natCast]
  rw [w64_in (32 - (Lib.bitLen (size x) : Int)) (by omega), w64_in _ (by omega)]
  congr 1; omega
theorem loop0 (d : Nat) : ∀ (k : Nat) (i : Int), 0 ≤ i → 31 - i = d → d < k → psalteryref01_Spare.l0 k i 0 = some 31 := by
  induction d with
  | zero =>
    intro k i h0 hd hk
    obtain ⟨k, rfl⟩ : ∃ m, k = m + 1 := ⟨k - 1, by omega⟩
    simp only [psalteryref01_Spare.l0]
    rw [if_neg (by omega)]
    congr 1; omega
  | succ d ih =>
    intro k i h0 hd hk
    obtain ⟨k, rfl⟩ : ∃ m, k = m + 1 := ⟨k - 1, by omega⟩
    simp only [psalteryref01_Spare.l0]
    rw [show wrap64 (0 * 2) = 0 from w64_in _ (by omega), if_pos (by omega), if_pos (by omega), if_pos (by omega), w64_in (i + 1) (by omega)]
    exact ih k (i + 1) (by omega) (by omega) (by omega)
theorem loop1 (d : Nat) : ∀ (k : Nat) (i x : Int), 0 ≤ i → x ≠ 0 → -2147483648 ≤ x → x ≤ 2147483647 → 31 - Lib.bitLen (size x) = d → i ≤ Lib.bitLen (size x) → d < k →
    psalteryref01_Spare.l0 k i x = some (i + (31 - (Lib.bitLen (size x) : Int))) := by
  induction d with
  | zero =>
    intro k i x h0 hx hl hh hd hi hk
    obtain ⟨k, rfl⟩ : ∃ m, k = m + 1 := ⟨k - 1, by omega⟩
    have hs : size x < 2147483648 := by unfold size; split <;> omega
    have hb := bitLen_31 (size x) hs
    have hbig : 1073741824 ≤ size x := by
      rcases Nat.lt_or_ge (size x) 1073741824 with c | c
      · have := bitLen_low _ c; omega
      · exact c
    have hr : i + (31 - (Lib.bitLen (size x) : Int)) = i := by omega
    rw [hr]
    simp only [psalteryref01_Spare.l0]
    by_cases c : i < 31
    · rw [if_pos c, w64_in _ (by omega)]
      unfold size at hbig
      by_cases c2 : 0 ≤ x
      · rw [if_pos c2] at hbig
        rw [if_neg (by omega)]
      · rw [if_neg c2] at hbig
        rw [if_pos (by omega), if_neg (by omega)]
    · rw [if_neg c]
  | succ d ih =>
    intro k i x h0 hx hl hh hd hi hk
    obtain ⟨k, rfl⟩ : ∃ m, k = m + 1 := ⟨k - 1, by omega⟩
    have hs : size x < 2147483648 := by unfold size; split <;> omega
    have hlow : size x < 1073741824 := by
      rcases Nat.lt_or_ge (size x) 1073741824 with c | c
      · exact c
      · have := bitLen_top _ c hs; omega
    have hl2 : -2147483648 ≤ x * 2 ∧ x * 2 ≤ 2147483647 := by
      unfold size at hlow; split at hlow <;> omega
    have hz : size (x * 2) ≠ 0 := by unfold size; split <;> omega
    have hhalf : size (x * 2) / 2 = size x := by
      unfold size
      by_cases c : 0 ≤ x
      · rw [if_pos c, if_pos (by omega)]; omega
      · rw [if_neg c, if_neg (by omega)]; omega
    have hs2 : size (x * 2) < 2147483648 := by unfold size; split <;> omega
    have hb := Lib.bitLen_half (size (x * 2)) hz (by omega)
    rw [hhalf] at hb
    simp only [psalteryref01_Spare.l0]
    rw [if_pos (by omega), w64_in (x * 2) (by omega), if_pos (by omega), if_pos (by omega), w64_in (i + 1) (by omega)]
    rw [ih k (i + 1) (x * 2) (by omega) (by omega) (by omega) (by omega) (by omega) (by omega) (by omega), hb]
    congr 1; omega
theorem refspare_f (x : Int) (h : -2147483648 ≤ x ∧ x ≤ 2147483647) (h0 : x ≠ 0) : psalteryref01_Spare.f 33 x = some (31 - (Lib.bitLen (size x) : Int)) := by
  unfold psalteryref01_Spare.f
  rw [w64_in _ (by omega)]
  have hs : size x < 2147483648 := by unfold size; split <;> omega
  have hb := bitLen_31 (size x) hs
  rw [loop1 (31 - Lib.bitLen (size x)) 33 0 x (by omega) h0 (by omega) (by omega) rfl (by omega) (by omega)]
  congr 1; omega
theorem spares (x : Int) (h : -2147483648 ≤ x ∧ x ≤ 2147483647) : ∃ r, fix_Spare.f x = some r ∧ psalteryref01_Spare.f 33 x = some r := by
  by_cases c : x = 0
  · subst c
    refine ⟨31, rfl, ?_⟩
    unfold psalteryref01_Spare.f
    rw [w64_in _ (by omega)]
    exact loop0 31 33 0 (by omega) (by omega) (by omega)
  · exact ⟨_, spare_f x h c, refspare_f x h c⟩
theorem wf_i32 {x : Int} (h : (Lit.int .i32 x).wf = true) : -2147483648 ≤ x ∧ x ≤ 2147483647 := by
  have e1 : IntKind.i32.min = -2147483648 := by decide
  have e2 : IntKind.i32.max = 2147483647 := by decide
  simp only [Lit.wf, e1, e2, decide_eq_true_eq, Bool.and_eq_true] at h
  omega
theorem wf_i16 {x : Int} (h : (Lit.int .i16 x).wf = true) : -32768 ≤ x ∧ x ≤ 32767 := by
  have e1 : IntKind.i16.min = -32768 := by decide
  have e2 : IntKind.i16.max = 32767 := by decide
  simp only [Lit.wf, e1, e2, decide_eq_true_eq, Bool.and_eq_true] at h
  omega

theorem FixReckons : psalterylaw01_FixReckons.Pure := by
  intro a b c ha hb hc
  have ha := wf_i32 ha
  have hb := wf_i32 hb
  have hc := wf_i16 hc
  obtain ⟨r, h1, h2⟩ := spares a ha
  refine ⟨33, ?_⟩
  have ea : wrap64 a = a := w64_in _ (by omega)
  have eb : wrap64 b = b := w64_in _ (by omega)
  have ec : wrap64 c = c := w64_in _ (by omega)
  have k1 := clamp_in (wrap64 (a + b)) (-2147483648) 2147483647 (by decide)
  have k2 := clamp_in (wrap64 (a - b)) (-2147483648) 2147483647 (by decide)
  unfold psalterylaw01_FixReckons.f
  rw [alive_f, add_f, sub_f, mul15_f, mul31_f, mul_f, mul_f, ea, eb, ec, sat_f, sat_f, h1, h2]
  simp only [Option.bind_some, if_true]
  rw [w64_in _ (by omega), w64_in (clamp (wrap64 (a - b)) (-2147483648) 2147483647) (by omega)]
  simp

end Go.Proofs.Ytojlgjdebokelaa.Pure
