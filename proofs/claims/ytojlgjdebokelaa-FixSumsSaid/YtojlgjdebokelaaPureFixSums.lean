/- psalterylaw01.FixSums answers true for every input: fix's sum of products, and its error, are the reference's. No condition: every list of int32, every list of int16, every int. -/
import Derived.Test.YtojlgjdebokelaaPFixSumsx2
import Derived.Test.YtojlgjdebokelaaHPure
namespace Go.Proofs.Ytojlgjdebokelaa.Pure
open Go.RowKit Go.Proofs.Ytojlgjdebokelaa.PFixSums Go.Proofs.YtojlgjdebokelaaW.PrintWords Go.Proofs.YtojlgjdebokelaaW.PrintLast
open Go.Proofs.YtojlgjdebokelaaH

theorem alive_f : psalterylaw01_alive.f = some true := by decide +kernel
theorem w64_w64 (n : Int) : wrap64 (wrap64 n) = wrap64 n := w64_in _ (w64_range n)
/-- Both loops come to one sum. -/
theorem loops (a b : List Int) (s : Int) (hl : a.length = b.length) (hm : a.length ≤ 65536) (d : Nat) : ∀ (k : Nat) (n i : Int), 0 ≤ i → i ≤ a.length → (a.length : Int) - i = d → d < k →
    ∃ r, fix_Dot.l0 k b s (wrap64 n) a (a.length : Int) i = some (r, 0) ∧ psalteryref01_Dot.l0 k a b s (wrap64 n) i = some (r, 0) := by
  induction d with
  | zero =>
    intro k n i h0 h1 hd hk
    obtain ⟨k, rfl⟩ : ∃ m, k = m + 1 := ⟨k - 1, by omega⟩
    refine ⟨clamp (rnd (wrap64 n) s) (-2147483648) 2147483647, ?_, ?_⟩
    · simp only [fix_Dot.l0]
      rw [if_neg (by omega)]
      unfold fix_Round.f
      rw [if_pos (w64_range n).1, if_pos (w64_range n).2]
      rfl
    · simp only [psalteryref01_Dot.l0]
      rw [if_neg (by omega)]
      unfold psalteryref01_Round.f
      rw [if_pos (w64_range n).1, if_pos (w64_range n).2]
      simp only [Option.bind_some, psalteryref01_Sat.f]
      rw [if_pos trivial, Option.bind_some, w32_in _ (clamp_in _ _ _ (by decide))]
  | succ d ih =>
    intro k n i h0 h1 hd hk
    obtain ⟨k, rfl⟩ : ∃ m, k = m + 1 := ⟨k - 1, by omega⟩
    obtain ⟨r, e1, e2⟩ := ih k (wrap64 n + wrap64 (wrap64 (rd a i) * wrap64 (rd b i))) (i + 1) (by omega) (by omega) (by omega) (by omega)
    refine ⟨r, ?_, ?_⟩
    · simp only [fix_Dot.l0]
      rw [if_pos (by omega), if_pos h0, if_pos (by omega), if_pos (by omega), w64_in (i + 1) (by omega)]
      exact e1
    · simp only [psalteryref01_Dot.l0]
      rw [if_pos (by omega), if_pos h0, if_pos (by omega), w64_in (i + 1) (by omega)]
      exact e2
theorem dots (a b : List Int) (s : Int) : ∃ r e, fix_Dot.f 65538 a b s = some (r, e) ∧ psalteryref01_Dot.f 65538 a b s = some (r, e) := by
  unfold fix_Dot.f psalteryref01_Dot.f
  by_cases hl : (a.length : Int) = (b.length : Int)
  · rw [if_pos hl, if_pos hl]
    by_cases h0 : s < 0
    · rw [if_pos h0, if_pos h0]
      simp only [decide_eq_true h0]
      exact ⟨0, 1, rfl, rfl⟩
    · rw [if_neg h0, if_neg h0]
      by_cases h1 : s > 62
      · simp only [decide_eq_true h1]
        exact ⟨0, 1, rfl, rfl⟩
      · simp only [decide_eq_false h1]
        simp only [fix_Dot.j0, psalteryref01_Dot.j0]
        simp only [Bool.false_eq_true, if_false]
        by_cases h2 : (a.length : Int) > 65536
        · rw [if_pos h2, if_pos h2]
          exact ⟨0, 2, rfl, rfl⟩
        · rw [if_neg h2, if_neg h2]
          obtain ⟨r, e1, e2⟩ := loops a b s (by omega) (by omega) a.length 65537 0 0 (by omega) (by omega) (by omega) (by omega)
          rw [w64_in 0 (by omega)] at e1 e2
          exact ⟨r, 0, e1, e2⟩
  · rw [if_neg hl, if_neg hl]
    have : ((a.length : Int) != (b.length : Int)) = true := bne_iff_ne.mpr hl
    simp only [this]
    exact ⟨0, 1, rfl, rfl⟩

theorem FixSums : psalterylaw01_FixSums.Pure := by
  intro a b s _ _ _ _ _ _ _
  obtain ⟨r, e, e1, e2⟩ := dots a b s
  refine ⟨65539, ?_⟩
  unfold psalterylaw01_FixSums.f
  rw [alive_f]
  simp only [Option.bind_some, if_true]
  by_cases h1 : (a.length : Int) > 70000
  · rw [if_pos h1]; rfl
  · rw [if_neg h1]
    by_cases h2 : (b.length : Int) > 70000
    · simp only [decide_eq_true h2]; rfl
    · simp only [decide_eq_false h2]
      simp only [psalterylaw01_FixSums.j0]
      rw [if_neg (by decide), e1, e2]
      simp

end Go.Proofs.Ytojlgjdebokelaa.Pure
