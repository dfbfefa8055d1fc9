/- TnsRuns: for every list of lines and every filter the law returns true: the parts of the filter, and the lines run through it and back, are the document's; no condition. -/
import Derived.Test.YtojlgjdebokelabRows
import Derived.Test.YtojlgjdebokelabHL7
import Derived.WalkKit
import Derived.ProofKit
import Derived.OpenShut
import Derived.ShutString
import Derived.ChangeOld
import Derived.Below
import Derived.SizedLaws
import Derived.Laws.IdiomArrays
import Derived.Test.YtojlgjdebokelabWSized
namespace Go.Proofs.Ytojlgjdebokelab.tnsRuns
open Go.ChangeShapes Go.WideShapes Go.ChangeAt Go.RowKit
open Go.Proofs.YtojlgjdebokelabH Go.Proofs.YtojlgjdebokelabW Go.Proofs.YtojlgjdebokelabW.PrintWords
set_option linter.unusedVariables false
theorem own : ownKnob Try.prog.godebug = none := by kernel_rfl
theorem laidOut : laidOutB Try.prog = true := by kernel_rfl
def IsRow (k : IntKind) (w : World) (a : Option Addr) (len cap : Nat) (zs : List Int) : Prop :=
  (a = none ∧ len = 0 ∧ cap = 0 ∧ zs = []) ∨
  ∃ x, a = some x ∧ len ≤ cap ∧ cap ≤ maxLen ∧ zs.length = cap ∧ (∀ i, i < zs.length → w.cell? (x.add i) = some (.int k (zs.getD i 0))) ∧ ∀ n ∈ zs, (Lit.int k n).wf = true
theorem array5 {α : Type} {cs : Array α} (h : cs.size = 5) : ∃ c0 c1 c2 c3 c4, cs = #[c0, c1, c2, c3, c4] := by
  obtain ⟨l⟩ := cs
  match l, h with
  | [c0, c1, c2, c3, c4], _ => exact ⟨c0, c1, c2, c3, c4, rfl⟩
set_option maxRecDepth 100000 in
/-- A filter that came in. -/
theorem open_filter {H : Type} {enc : TypeId × Value → H} {w : World} {base : Nat} {spare : Nat → Bool} {held : Bool} {r : Reach} {b0 : Nat} {v : Value} {d : DataW H} {p : List MemPlace}
    (hv : Value.okWide Try.prog w r b0 54 v) (h : DataW.Trod enc Try.prog w base spare held 54 v d p) : ∃ on i0 i1 i2 i3 : Int, v = fval on i0 i1 i2 i3 := by
  have c54 : Try.prog.cellsOf 54 = 5 := by kernel_rfl
  have c3 : Try.prog.cellsOf 3 = 1 := by kernel_rfl
  have c49 : Try.prog.cellsOf 49 = 4 := by kernel_rfl
  have u3 : Try.prog.underlying 3 = some (.int .i64) := by kernel_rfl
  have u49 : Try.prog.underlying 49 = some (.array 4 3) := by kernel_rfl
  obtain ⟨cs, rfl, hsz⟩ := okWide_struct Try.underlying54 hv
  obtain ⟨a, b0, b1, b2, b3, rfl⟩ := array5 (hsz.trans c54)
  obtain ⟨fuel, hf⟩ := h
  obtain ⟨y0, y1, n, _, _, h0, h1⟩ := trod_struct2 Try.underlying54 hf
  have h0 : DataW.trod enc Try.prog w base spare held n 3 [a] = some y0 := by simpa [Value.cells, c3] using h0
  have h1 : DataW.trod enc Try.prog w base spare held n 49 [b0, b1, b2, b3] = some y1 := by simpa [Value.cells, c49] using h1
  obtain ⟨on, g, _⟩ := DataW.trod_int u3 h0
  obtain ⟨_, _, _, _, _, _, k0, k1, k2, k3⟩ := trod_array4 u49 c3 h1
  obtain ⟨i0, g0, _⟩ := DataW.trod_int u3 k0
  obtain ⟨i1, g1, _⟩ := DataW.trod_int u3 k1
  obtain ⟨i2, g2, _⟩ := DataW.trod_int u3 k2
  obtain ⟨i3, g3, _⟩ := DataW.trod_int u3 k3
  injection g with g
  injection g0 with g0
  injection g1 with g1
  injection g2 with g2
  injection g3 with g3
  exact ⟨on, i0, i1, i2, i3, by rw [g, g0, g1, g2, g3]⟩
theorem wf32 {x : Int} (h : (Lit.int .i32 x).wf = true) : I32 x := wf_i32 h
set_option maxRecDepth 100000 in
theorem lifted (os : Os) (started : os.Started) (H : Type) (enc : TypeId × Value → H) :
    ReturnsInHanded {} Try.checked os 7 .any (Rows.tnsRunsSpec.pre6 enc Try.prog Try.f7 Rows.tnsRunsRow.domain false) (Rows.tnsRunsSpec.post enc Try.prog Try.f7 false true false false) := by
  refine returnsInHanded_of_change_sized (C := Try.checked) own started (by kernel_rfl) Try.func7
    (ChangeSpec.witness6 (enc := enc) (C := Try.checked) false ⟨#[], #[.slice none 0 0, fval 0 0 0 0 0], []⟩ 8 (by kernel_rfl) (by kernel_rfl) (by kernel_rfl) (by kernel_rfl)) ?_
  intro W base args ds gs before hval0 hW hcnd hsz0 _
  have hsz : (DataW.weightsEach Try.prog (Try.f7.params.toList ++ Rows.tnsRunsSpec.plain.varTypes Try.prog) (ds ++ gs)).all (· ≤ reachBytes) = true := hsz0
  have hval : ∀ (j : Nat) t v, Try.f7.params[j]? = some t → args[j]? = some v → Value.okWide Try.prog W .any base t v := hval0
  have hW' := hW
  obtain ⟨p, q, hA0, hV, rfl, hfz, hnd⟩ := hW
  have hA : DataW.TrodAll enc Try.prog W 0 (fun _ => true) true Try.f7.params.toList args.toList ds p := hA0
  rw [Try.params7] at hA hval hsz
  obtain ⟨v0, vs0, d0, ds0, p0, q0, hargs, rfl, rfl, h0, r0⟩ := trodAll_cons hA
  obtain ⟨v1, vs1, d1, ds1, p1, q1, rfl, rfl, rfl, h1, r1⟩ := trodAll_cons r0
  obtain ⟨rfl, rfl, rfl⟩ := trodAll_nil r1
  obtain rfl : args = #[v0, v1] := by cases args; simp_all
  obtain ⟨rfl, rfl⟩ := trodVars_none hV
  obtain ⟨a0, len0, cap0, rfl⟩ := okWide_slice Try.underlying25 (hval 0 25 v0 rfl rfl)
  have k0 := h0
  have lt0 : ∀ x ∈ p0, x.block < W.heap.size := by obtain ⟨m, hm⟩ := k0; exact DataW.trod_lt m _ _ _ hm
  obtain ⟨z0, w0⟩ : ∃ zs, IsRow .i32 W a0 len0 cap0 zs := by
    obtain ⟨fuel, hf⟩ := h0
    rcases open_ints Try.underlying25 Try.underlying21 (by kernel_rfl) hf with ⟨hcs, _⟩ | ⟨x, l, c, zs, hcs, _, hl, hm, hz, _, hcell, hwz⟩
    · simp [Value.cells] at hcs
      obtain ⟨rfl, rfl, rfl⟩ := hcs
      exact ⟨[], .inl ⟨rfl, rfl, rfl, rfl⟩⟩
    · simp [Value.cells] at hcs
      obtain ⟨rfl, rfl, rfl⟩ := hcs
      exact ⟨zs, .inr ⟨_, rfl, hl, hm, by simpa using hz, hcell, hwz⟩⟩
  have k1 := h1
  have lt1 : ∀ x ∈ p1, x.block < W.heap.size := by obtain ⟨m, hm⟩ := k1; exact DataW.trod_lt m _ _ _ hm
  obtain ⟨on, i0, i1, i2, i3, rfl⟩ := open_filter (hval 1 54 v1 rfl rfl) h1
  clear hA0 hval0 hsz0 hsz
  obtain ⟨l, rfl, hrd, _, hwf, hlc⟩ := ReadsInt.ofRowC w0
  refine (l7_any a0 cap0 l on i0 i1 i2 i3 W (Kd.C_of_reads (d := (0 : Int)) hrd) hlc (fun x hx => wf32 (hwf x hx))).mono fun e W' ⟨he, bel⟩ => ?_
  subst he
  exact ⟨_, rfl, _, _, _, [], _, [], hW', trodAll_mk1 (shut_bool Try.underlying4 _), (trodAll_cons_mk (Below.trod laidOut (by kernel_rfl) (of_decide_eq_true (by kernel_rfl)) k0 bel lt0) (trodAll_cons_mk (Below.trod laidOut (by kernel_rfl) (of_decide_eq_true (by kernel_rfl)) k1 bel lt1) trodAll_mk0)), rfl, bel.frame _, fun h => by cases h⟩
theorem over : Rows.tnsRunsRow.holds Try.pinned (OpenSpec.ofChange Rows.tnsRunsSpec) :=
  OpenClaim.holds_of_wide 7 Try.f7 rfl rfl rfl rfl rfl rfl rfl ⟨rfl, rfl, rfl, rfl, rfl⟩ rfl rfl rfl rfl rfl (by kernel_rfl) Try.func7 (by kernel_rfl)
    (of_decide_eq_true (by kernel_rfl)) (by unfold Func.isWrapper; first | (rw [if_pos (by decide +kernel)]; kernel_rfl) | (rw [if_neg (by decide +kernel)]; exact ⟨rfl, rfl⟩))
    (fun os started H enc _ => lifted os started H enc)
theorem proved : Rows.TnsRunsSaid := over
#print axioms proved
end Go.Proofs.Ytojlgjdebokelab.tnsRuns
namespace Go.Proofs.Ytojlgjdebokelab
/-- The row, under a short name, for the claim. -/
theorem tnsRuns_holds : Rows.TnsRunsSaid := tnsRuns.proved
end Go.Proofs.Ytojlgjdebokelab
