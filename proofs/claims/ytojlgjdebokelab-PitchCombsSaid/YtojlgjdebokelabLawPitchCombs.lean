/- PitchCombs: for every list of lists of numbers and every list of pitches the law returns true: what a comb strengthens, call by call, is the document's; no condition. -/
import Derived.Test.YtojlgjdebokelabRows
import Derived.Test.YtojlgjdebokelabHComb
import Derived.WalkKit
import Derived.ProofKit
import Derived.OpenShut
import Derived.ShutString
import Derived.ChangeOld
import Derived.Below
import Derived.SizedLaws
import Derived.Deep.Matrix
import Derived.Deep.SlicePairs
import Derived.Test.YtojlgjdebokelabWSized
namespace Go.Proofs.Ytojlgjdebokelab.pitchCombs
open Go.ChangeShapes Go.WideShapes Go.ChangeAt Go.RowKit Go.Deep
open Go.Proofs.YtojlgjdebokelabH Go.Proofs.YtojlgjdebokelabW Go.Proofs.YtojlgjdebokelabW.PrintWords
set_option linter.unusedVariables false
set_option linter.unusedSimpArgs false
theorem own : ownKnob Try.prog.godebug = none := by kernel_rfl
theorem laidOut : laidOutB Try.prog = true := by kernel_rfl
/-- A list of lists that came in. -/
theorem open_lists {H : Type} {enc : TypeId × Value → H} {w : World} {base : Nat} {held : Bool} {a : Option Addr} {len cap : Nat} {d : DataW H} {p : List MemPlace}
    (h : DataW.Trod enc Try.prog w base (fun _ => true) held 33 (.slice a len cap) d p) : ∃ ls : List (List Int), len = ls.length ∧ InL w a ls ∧ ∀ l ∈ ls, ∀ v ∈ l, I32 v := by
  obtain ⟨fuel, hf⟩ := h
  rcases open_int_rows Try.underlying33 Try.underlying25 Try.underlying21 (by kernel_rfl) (by kernel_rfl) hf with ⟨hcs, _⟩ | ⟨x, l, c, A, L, C, Z, hcs, _, hl, hm, _, hr⟩
  · simp [Value.cells] at hcs
    obtain ⟨rfl, rfl, rfl⟩ := hcs
    exact ⟨[], rfl, fun i x hx => by simp at hx, fun l hl => by simp at hl⟩
  · simp [Value.cells] at hcs
    obtain ⟨rfl, rfl, rfl⟩ := hcs
    have hlen : ∀ i, i < cap → ((Z i).take (L i)).length = L i := fun i hi => by
      obtain ⟨_, h1, _, h2, _⟩ := hr i hi
      rw [List.length_take]; omega
    refine ⟨(List.range len).map fun i => (Z i).take (L i), by simp, fun i y hy => ?_, fun y hy v hv => ?_⟩
    · have hi : i < len := by
        rcases Nat.lt_or_ge i len with h | h
        · exact h
        · rw [List.getElem?_eq_none (by simpa using h)] at hy; cases hy
      rw [List.getElem?_map, List.getElem?_range hi] at hy
      obtain rfl : (Z i).take (L i) = y := by simpa using hy
      have hl2 := hlen i (by omega)
      obtain ⟨h0, h1, h2, h3, h4, h5, h6⟩ := hr i (by omega)
      refine ⟨x, A i, C i, rfl, by rw [hl2]; exact h0, by omega, Kd.C_of_reads (d := (0 : Int)) ⟨rfl, by rw [hl2]; simp only [maxLen] at h2; omega, fun hpos => ?_⟩⟩
      rw [hl2] at hpos ⊢
      cases hA : A i with
      | none => have := h5 hA; omega
      | some a' =>
        refine ⟨a', rfl, fun j hj => ?_⟩
        rw [(h6 a' hA).2 j (by omega), List.getD_eq_getElem?_getD, List.getD_eq_getElem?_getD, List.getElem?_take_of_lt hj]
    · obtain ⟨i, hi, rfl⟩ := List.mem_map.1 hy
      obtain ⟨_, _, _, _, h4, _⟩ := hr i (by have := List.mem_range.1 hi; omega)
      exact wf_i32 (h4 v (List.mem_of_mem_take hv))
/-- A list of pitches that came in. -/
theorem open_pitches {H : Type} {enc : TypeId × Value → H} {w : World} {base : Nat} {held : Bool} {a : Option Addr} {len cap : Nat} {d : DataW H} {p : List MemPlace}
    (h : DataW.Trod enc Try.prog w base (fun _ => true) held 34 (.slice a len cap) d p) : ∃ ps : List (Int × Int), len = ps.length ∧ InP w a ps ∧ ps.length ≤ 9223372036854775807 := by
  obtain ⟨fuel, hf⟩ := h
  rcases open_slice_pairs Try.underlying34 Try.underlying43 (by kernel_rfl) rfl rfl (by kernel_rfl) (by kernel_rfl) hf with ⟨hcs, _⟩ | ⟨x, l, c, m, n, V0, V1, D0, D1, P0, P1, hcs, _, hl, hm, hmm, _, hr⟩
  · simp [Value.cells] at hcs
    obtain ⟨rfl, rfl, rfl⟩ := hcs
    exact ⟨[], rfl, fun i x hx => by simp at hx, by simp⟩
  · simp [Value.cells] at hcs
    obtain ⟨rfl, rfl, rfl⟩ := hcs
    simp only [if_true] at hmm
    subst hmm
    refine ⟨(List.range len).map fun i => (intOf (V0 i), intOf (V1 i)), by simp, fun i y hy => ?_, by simp only [maxLen] at hm; simp; omega⟩
    have hi : i < len := by
      rcases Nat.lt_or_ge i len with h | h
      · exact h
      · rw [List.getElem?_eq_none (by simpa using h)] at hy; cases hy
    rw [List.getElem?_map, List.getElem?_range hi] at hy
    obtain rfl : (intOf (V0 i), intOf (V1 i)) = y := by simpa using hy
    obtain ⟨h0, h1, h2, h3⟩ := hr i (by omega)
    obtain ⟨n0, g0, _⟩ := DataW.trod_int Try.underlying3 h2
    obtain ⟨n1, g1, _⟩ := DataW.trod_int Try.underlying3 h3
    injection g0 with g0
    injection g1 with g1
    rw [g0] at h0
    rw [g1] at h1
    refine ⟨x, rfl, by rw [g0]; exact h0, ?_⟩
    rw [g1]
    have e : (⟨(x.add (i * 2)).block, (x.add (i * 2)).off + 1, none⟩ : Addr) = x.add (i * 2 + 1) := by
      unfold Addr.add
      rw [if_neg (by omega : ¬ i * 2 + 1 = 0)]
      by_cases hz : i * 2 = 0
      · rw [if_pos hz]; simp [hz]
      · rw [if_neg hz]; simp [Nat.add_assoc]
    rw [e]
    exact h1
set_option maxRecDepth 100000 in
theorem lifted (os : Os) (started : os.Started) (H : Type) (enc : TypeId × Value → H) :
    ReturnsInHanded {} Try.checked os 4 .any (Rows.pitchCombsSpec.pre6 enc Try.prog Try.f4 Rows.pitchCombsRow.domain false) (Rows.pitchCombsSpec.post enc Try.prog Try.f4 false true false false) := by
  refine returnsInHanded_of_change_sized (C := Try.checked) own started (by kernel_rfl) Try.func4
    (ChangeSpec.witness6 (enc := enc) (C := Try.checked) false ⟨#[], #[.slice none 0 0, .slice none 0 0], []⟩ 8 (by kernel_rfl) (by kernel_rfl) (by kernel_rfl) (by kernel_rfl)) ?_
  intro W base args ds gs before hval0 hW hcnd hsz0 _
  have hsz : (DataW.weightsEach Try.prog (Try.f4.params.toList ++ Rows.pitchCombsSpec.plain.varTypes Try.prog) (ds ++ gs)).all (· ≤ reachBytes) = true := hsz0
  have hval : ∀ (j : Nat) t v, Try.f4.params[j]? = some t → args[j]? = some v → Value.okWide Try.prog W .any base t v := hval0
  have hW' := hW
  obtain ⟨p, q, hA0, hV, rfl, hfz, hnd⟩ := hW
  have hA : DataW.TrodAll enc Try.prog W 0 (fun _ => true) true Try.f4.params.toList args.toList ds p := hA0
  rw [Try.params4] at hA hval hsz
  obtain ⟨v0, vs0, d0, ds0, p0, q0, hargs, rfl, rfl, h0, r0⟩ := trodAll_cons hA
  obtain ⟨v1, vs1, d1, ds1, p1, q1, rfl, rfl, rfl, h1, r1⟩ := trodAll_cons r0
  obtain ⟨rfl, rfl, rfl⟩ := trodAll_nil r1
  obtain rfl : args = #[v0, v1] := by cases args; simp_all
  obtain ⟨rfl, rfl⟩ := trodVars_none hV
  obtain ⟨a0, len0, cap0, rfl⟩ := okWide_slice Try.underlying33 (hval 0 33 v0 rfl rfl)
  have k0 := h0
  have lt0 : ∀ x ∈ p0, x.block < W.heap.size := by obtain ⟨m, hm⟩ := k0; exact DataW.trod_lt m _ _ _ hm
  obtain ⟨a1, len1, cap1, rfl⟩ := okWide_slice Try.underlying34 (hval 1 34 v1 rfl rfl)
  have k1 := h1
  have lt1 : ∀ x ∈ p1, x.block < W.heap.size := by obtain ⟨m, hm⟩ := k1; exact DataW.trod_lt m _ _ _ hm
  obtain ⟨ls, rfl, hL, hx⟩ := open_lists h0
  obtain ⟨ps, rfl, hP, hps⟩ := open_pitches h1
  clear hA0 hval0 hsz0 hsz
  refine (l4_any a0 a1 cap0 cap1 ls ps W hL hP hx hps).mono fun e W' ⟨he, bel⟩ => ?_
  subst he
  exact ⟨_, rfl, _, _, _, [], _, [], hW', trodAll_mk1 (shut_bool Try.underlying4 _), (trodAll_cons_mk (Below.trod laidOut (by kernel_rfl) (of_decide_eq_true (by kernel_rfl)) k0 bel lt0) (trodAll_cons_mk (Below.trod laidOut (by kernel_rfl) (of_decide_eq_true (by kernel_rfl)) k1 bel lt1) trodAll_mk0)), rfl, bel.frame _, fun h => by cases h⟩
theorem over : Rows.pitchCombsRow.holds Try.pinned (OpenSpec.ofChange Rows.pitchCombsSpec) :=
  OpenClaim.holds_of_wide 4 Try.f4 rfl rfl rfl rfl rfl rfl rfl ⟨rfl, rfl, rfl, rfl, rfl⟩ rfl rfl rfl rfl rfl (by kernel_rfl) Try.func4 (by kernel_rfl)
    (of_decide_eq_true (by kernel_rfl)) (by unfold Func.isWrapper; first | (rw [if_pos (by decide +kernel)]; kernel_rfl) | (rw [if_neg (by decide +kernel)]; exact ⟨rfl, rfl⟩))
    (fun os started H enc _ => lifted os started H enc)
theorem proved : Rows.PitchCombsSaid := over
#print axioms proved
end Go.Proofs.Ytojlgjdebokelab.pitchCombs
namespace Go.Proofs.Ytojlgjdebokelab
/-- The row, under a short name, for the claim. -/
theorem pitchCombs_holds : Rows.PitchCombsSaid := pitchCombs.proved
end Go.Proofs.Ytojlgjdebokelab
