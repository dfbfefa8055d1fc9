/- psalterylaw03.WaveSines answers true for every input: wave's sine and cosine of any angle, and their errors, are the reference's. No condition: every num, every den. -/
import Derived.Test.YtojlgjdebokelaaPWaveSinesx1
import Derived.Test.YtojlgjdebokelaaHPure
namespace Go.Proofs.Ytojlgjdebokelaa.Pure
open Go.RowKit Go.Proofs.Ytojlgjdebokelaa.PWaveSines Go.Proofs.YtojlgjdebokelaaW.PrintWords Go.Proofs.YtojlgjdebokelaaW.PrintLast
open Go.Proofs.YtojlgjdebokelaaH

theorem alive_f : psalterylaw03_alive.f = some true := by decide +kernel
theorem sine_f (n d : Int) (h : 1 ≤ d) (h2 : d ≤ 4194304) : wave_sine.f n d = some (sinv n d) := by
  unfold wave_sine.f
  rw [if_pos h, if_pos h2]
theorem of_f (n d : Int) (h : 1 ≤ d) (h2 : d ≤ 4194304) (h3 : d % 2 = 0 ∨ d ≤ 2097152) : psalteryref03_Of.f n d = some (sinv n d) := by
  unfold psalteryref03_Of.f
  rw [if_pos h, if_pos h2, if_pos h3]
theorem sinv_mod (a b d : Int) (h : a % d = b % d) : sinv a d = sinv b d := by
  unfold sinv; rw [h]
theorem sines (n d : Int) : ∃ r e, wave_Sine.f n d = some (r, e) ∧ psalteryref03_Sine.f n d = some (r, e) := by
  unfold wave_Sine.f psalteryref03_Sine.f
  by_cases h : d < 1
  · rw [if_pos h, if_pos h]
    exact ⟨0, 1, rfl, rfl⟩
  · rw [if_neg h, if_neg h]
    by_cases h2 : d > 1048576
    · rw [if_pos h2, if_pos h2]
      exact ⟨0, 1, rfl, rfl⟩
    · rw [if_neg h2, if_neg h2, sine_f n d (by omega) (by omega), of_f n d (by omega) (by omega) (.inr (by omega))]
      exact ⟨_, _, rfl, rfl⟩
theorem cosines (n d : Int) : ∃ r e, wave_Cosine.f 1 n d = some (r, e) ∧ psalteryref03_Cosine.f n d = some (r, e) := by
  unfold wave_Cosine.f psalteryref03_Cosine.f
  by_cases h : d < 1
  · rw [if_pos h, if_pos h]
    exact ⟨0, 1, rfl, rfl⟩
  · rw [if_neg h, if_neg h]
    by_cases h2 : d > 1048576
    · rw [if_pos h2]
      simp only [decide_eq_true h2]
      exact ⟨0, 1, rfl, rfl⟩
    · rw [if_neg h2, if_neg (by omega)]
      simp only [decide_eq_false h2]
      have a0 := Int.emod_nonneg n (b := d) (by omega)
      have a1 := Int.emod_lt_of_pos n (b := d) (by omega)
      have hm : wave_modulo.f n d = some (n % d) := by
        unfold wave_modulo.f
        rw [if_pos (by omega), if_pos (by omega)]
      simp only [wave_Cosine.j0]
      rw [if_neg (by decide), hm, Option.bind_some, w64_in (4 * (n % d)) (by omega), w64_in (4 * (n % d) + d) (by omega), w64_in (4 * d) (by omega), sine_f _ _ (by omega) (by omega)]
      have hs : sinv (wrap64 (wrap64 (4 * Int.tmod n d) + d)) (4 * d) = sinv (4 * (n % d) + d) (4 * d) := by
        rcases mod_tmod n d (n % d) (by omega) rfl with ⟨c, e⟩ | ⟨c, e⟩
        · have e2 : Int.tmod n d = n % d - d := by omega
          rw [e2, w64_in (4 * (n % d - d)) (by omega), w64_in _ (by omega)]
          refine sinv_mod _ _ _ ?_
          rw [show 4 * (n % d - d) + d = (4 * (n % d) + d) - 4 * d by omega, Int.sub_emod_right]
        · rw [e, w64_in (4 * (n % d)) (by omega), w64_in _ (by omega)]
      rw [of_f _ _ (by omega) (by omega) (.inl (by omega)), hs]
      exact ⟨_, _, rfl, rfl⟩

theorem WaveSines : psalterylaw03_WaveSines.Pure := by
  intro n d _ _
  obtain ⟨r, e, h1, h2⟩ := sines n d
  obtain ⟨q, f, h3, h4⟩ := cosines n d
  refine ⟨1, ?_⟩
  unfold psalterylaw03_WaveSines.f
  rw [alive_f, h1, h2, h3, h4]
  simp

end Go.Proofs.Ytojlgjdebokelaa.Pure
