/- psalterylaw03.WaveTables answers true for every input: wave's table of the sines of a whole turn is the reference's, number by number, and no table is told where there is none. No condition: every den. -/
import Derived.Test.YtojlgjdebokelaaPWaveTablesx2
import Derived.Test.YtojlgjdebokelaaHPure
namespace Go.Proofs.Ytojlgjdebokelaa.Pure
open Go.RowKit Go.Proofs.Ytojlgjdebokelaa.PWaveTables Go.Proofs.YtojlgjdebokelaaW.PrintWords Go.Proofs.YtojlgjdebokelaaW.PrintLast
open Go.Proofs.YtojlgjdebokelaaH

theorem alive_f : psalterylaw03_alive.f = some true := by decide +kernel
theorem sine_f (n d : Int) (h : 1 ≤ d) (h2 : d ≤ 4194304) : wave_sine.f n d = some (sinv n d) := by
  unfold wave_sine.f
  rw [if_pos h, if_pos h2]
theorem of_f (n d : Int) (h : 1 ≤ d) (h2 : d ≤ 4194304) (h3 : d % 2 = 0 ∨ d ≤ 2097152) : psalteryref03_Of.f n d = some (sinv n d) := by
  unfold psalteryref03_Of.f
  rw [if_pos h, if_pos h2, if_pos h3]
theorem rd_set (l : List Int) (i j : Int) (v : Int) (hi : 0 ≤ i) (hj : 0 ≤ j) (h : i < (l.length : Int)) : rd (l.set i.toNat v) j = if j = i then v else rd l j := by
  unfold rd
  rw [List.getD_eq_getElem?_getD, List.getD_eq_getElem?_getD, List.getElem?_set]
  by_cases c : j = i
  · subst c
    rw [if_pos rfl, if_pos rfl, if_pos (by omega)]; rfl
  · rw [if_neg (by omega), if_neg c]
/-- The loop fills the table. -/
theorem fills (D : Int) (hD : 1 ≤ D) (hD2 : D ≤ 65536) (d : Nat) : ∀ (k : Nat) (l : List Int) (i : Int), 0 ≤ i → i ≤ D → (l.length : Int) = D → D - i = d → d < k → (∀ j, 0 ≤ j → j < i → rd l j = sinv j D) →
    ∃ r, wave_Sines.l0 k D l D i = some (r, 0) ∧ (r.length : Int) = D ∧ ∀ j, 0 ≤ j → j < D → rd r j = sinv j D := by
  induction d with
  | zero =>
    intro k l i h0 h1 hl hd hk hf
    obtain ⟨k, rfl⟩ : ∃ m, k = m + 1 := ⟨k - 1, by omega⟩
    refine ⟨l, ?_, hl, fun j h2 h3 => hf j h2 (by omega)⟩
    simp only [wave_Sines.l0]
    rw [if_neg (by omega)]
  | succ d ih =>
    intro k l i h0 h1 hl hd hk hf
    obtain ⟨k, rfl⟩ : ∃ m, k = m + 1 := ⟨k - 1, by omega⟩
    obtain ⟨r, e1, e2⟩ := ih k (l.set i.toNat (sinv i D)) (i + 1) (by omega) (by omega) (by simpa using hl) (by omega) (by omega) (by
      intro j h2 h3
      rw [rd_set l i j _ h0 h2 (by omega)]
      by_cases c : j = i
      · rw [if_pos c, c]
      · rw [if_neg c]; exact hf j h2 (by omega))
    refine ⟨r, ?_, e2⟩
    simp only [wave_Sines.l0]
    rw [if_pos (by omega), sine_f i D (by omega) (by omega), Option.bind_some, if_pos h0, if_pos (by omega), w64_in (i + 1) (by omega)]
    exact e1
/-- The law's own loop finds nothing. -/
theorem looks (D : Int) (hD : 1 ≤ D) (hD2 : D ≤ 65536) (r : List Int) (hr : (r.length : Int) = D) (hf : ∀ j, 0 ≤ j → j < D → rd r j = sinv j D) (d : Nat) : ∀ (k : Nat) (i : Int), 0 ≤ i → i ≤ D → D - i = d → d < k →
    psalterylaw03_WaveTables.l0 k D r i = some true := by
  induction d with
  | zero =>
    intro k i h0 h1 hd hk
    obtain ⟨k, rfl⟩ : ∃ m, k = m + 1 := ⟨k - 1, by omega⟩
    simp only [psalterylaw03_WaveTables.l0]
    rw [if_neg (by omega)]
  | succ d ih =>
    intro k i h0 h1 hd hk
    obtain ⟨k, rfl⟩ : ∃ m, k = m + 1 := ⟨k - 1, by omega⟩
    simp only [psalterylaw03_WaveTables.l0]
    rw [if_pos (by omega), if_pos h0, if_pos (by omega), of_f i D (by omega) (by omega) (.inr (by omega)), Option.bind_some, if_pos (hf i h0 (by omega)), w64_in (i + 1) (by omega)]
    exact ih k (i + 1) (by omega) (by omega) (by omega) (by omega)
theorem tables (D : Int) (hD : 1 ≤ D) (hD2 : D ≤ 65536) : ∃ r, wave_Sines.f 65540 D = some (r, 0) ∧ (r.length : Int) = D ∧ ∀ j, 0 ≤ j → j < D → rd r j = sinv j D := by
  obtain ⟨r, e, h⟩ := fills D hD hD2 D.toNat 65539 (List.replicate D.toNat 0) 0 (by omega) (by omega) (by simp; omega) (by omega) (by omega) (by intro j h0 h1; omega)
  refine ⟨r, ?_, h⟩
  unfold wave_Sines.f
  rw [if_neg (by omega)]
  simp only [decide_eq_false (show ¬ D > 65536 by omega), wave_Sines.j0]
  rw [if_neg (by decide), if_pos (by omega), if_pos (by omega), Option.bind_some, show ((List.replicate D.toNat (0 : Int)).length : Int) = D by simp; omega]
  exact e

theorem WaveTables : psalterylaw03_WaveTables.Pure := by
  intro D _
  refine ⟨65543, ?_⟩
  unfold psalterylaw03_WaveTables.f
  rw [alive_f, Option.bind_some, if_pos rfl]
  have none_ : ∀ k, D < 1 ∨ D > 65536 → wave_Sines.f (k + 1) D = some ([], 1) := by
    intro k h
    unfold wave_Sines.f
    by_cases c : D < 1
    · rw [if_pos c]; rfl
    · rw [if_neg c, decide_eq_true (show D > 65536 by omega)]; rfl
  by_cases h1 : D > 5000
  · rw [if_pos h1]
    by_cases h2 : D ≤ 65536
    · rw [decide_eq_true h2]; rfl
    · rw [decide_eq_false h2]
      simp only [psalterylaw03_WaveTables.j0]
      rw [if_neg (by decide), none_ _ (.inr (by omega)), Option.bind_some, if_neg (by omega), decide_eq_true (show D > 65536 by omega)]
      rfl
  · rw [if_neg h1]
    simp only [psalterylaw03_WaveTables.j0]
    rw [if_neg (by decide)]
    by_cases h2 : D < 1
    · rw [none_ _ (.inl h2), Option.bind_some, if_pos h2]
      rfl
    · obtain ⟨r, e1, e2, e3⟩ := tables D (by omega) (by omega)
      have e1' : wave_Sines.f 65542 D = some (r, 0) := wave_Sines.mono D 65541 _ (wave_Sines.mono D 65540 _ e1)
      rw [e1', Option.bind_some, if_neg h2, decide_eq_false (show ¬ D > 65536 by omega)]
      simp only [psalterylaw03_WaveTables.j1]
      rw [if_neg (by decide), if_pos trivial, show ((r.length : Int) != D) = false from bne_eq_false_iff_eq.mpr e2]
      simp only [psalterylaw03_WaveTables.j2]
      rw [if_neg (by decide)]
      exact looks D (by omega) (by omega) r e2 e3 D.toNat 65540 0 (by omega) (by omega) (by omega) (by omega)

end Go.Proofs.Ytojlgjdebokelaa.Pure
