/- ShapeTurns: for every list of lines and every shape the law returns true: what the shape says, and the lines made even and uneven by it, are the document's; no condition. -/
import Derived.Test.YtojlgjdebokelabRows
import Derived.Test.YtojlgjdebokelabHShape
import Derived.WalkKit
import Derived.ProofKit
import Derived.OpenShut
import Derived.ShutString
import Derived.ChangeOld
import Derived.Below
import Derived.SizedLaws
import Derived.Laws.IdiomArrays
import Derived.Test.YtojlgjdebokelabWSized
namespace Go.Proofs.Ytojlgjdebokelab.shapeTurns
open Go.ChangeShapes Go.WideShapes Go.ChangeAt Go.RowKit
open Go.Proofs.YtojlgjdebokelabH Go.Proofs.YtojlgjdebokelabW Go.Proofs.YtojlgjdebokelabW.PrintWords
set_option linter.unusedVariables false
theorem own : ownKnob Try.prog.godebug = none := by kernel_rfl
theorem laidOut : laidOutB Try.prog = true := by kernel_rfl
def IsRow (k : IntKind) (w : World) (a : Option Addr) (len cap : Nat) (zs : List Int) : Prop :=
  (a = none ∧ len = 0 ∧ cap = 0 ∧ zs = []) ∨
  ∃ x, a = some x ∧ len ≤ cap ∧ cap ≤ maxLen ∧ zs.length = cap ∧ (∀ i, i < zs.length → w.cell? (x.add i) = some (.int k (zs.getD i 0))) ∧ ∀ n ∈ zs, (Lit.int k n).wf = true
theorem array9 {α : Type} {cs : Array α} (h : cs.size = 9) : ∃ c0 c1 c2 c3 c4 c5 c6 c7 c8, cs = #[c0, c1, c2, c3, c4, c5, c6, c7, c8] := by
  obtain ⟨l⟩ := cs
  match l, h with
  | [c0, c1, c2, c3, c4, c5, c6, c7, c8], _ => exact ⟨c0, c1, c2, c3, c4, c5, c6, c7, c8, rfl⟩
set_option maxRecDepth 100000 in
/-- A shape that came in. -/
theorem open_shape {H : Type} {enc : TypeId × Value → H} {w : World} {base : Nat} {spare : Nat → Bool} {held : Bool} {r : Reach} {b0 : Nat} {v : Value} {d : DataW H} {p : List MemPlace}
    (hv : Value.okWide Try.prog w r b0 59 v) (h : DataW.Trod enc Try.prog w base spare held 59 v d p) : ∃ g : Nat → Int, v = sval g := by
  have c59 : Try.prog.cellsOf 59 = 9 := by kernel_rfl
  have c3 : Try.prog.cellsOf 3 = 1 := by kernel_rfl
  have c57 : Try.prog.cellsOf 57 = 8 := by kernel_rfl
  have u3 : Try.prog.underlying 3 = some (.int .i64) := by kernel_rfl
  have u57 : Try.prog.underlying 57 = some (.array 8 3) := by kernel_rfl
  obtain ⟨cs, rfl, hsz⟩ := okWide_struct Try.underlying59 hv
  obtain ⟨a, b0, b1, b2, b3, b4, b5, b6, b7, rfl⟩ := array9 (hsz.trans c59)
  obtain ⟨fuel, hf⟩ := h
  obtain ⟨y0, y1, n, _, _, h0, h1⟩ := trod_struct2 Try.underlying59 hf
  have h0 : DataW.trod enc Try.prog w base spare held n 3 [a] = some y0 := by simpa [Value.cells, c3] using h0
  have h1 : DataW.trod enc Try.prog w base spare held n 57 [b0, b1, b2, b3, b4, b5, b6, b7] = some y1 := by simpa [Value.cells, c57] using h1
  obtain ⟨on, g, _⟩ := DataW.trod_int u3 h0
  obtain ⟨xs, m, _, _, _, hl, hall⟩ := DataW.trod_array u57 h1
  rw [c3] at hall
  have one : ∀ (i : Nat) (b : Value), i < 8 → (([b0, b1, b2, b3, b4, b5, b6, b7] : List Value).drop (i * 1)).take 1 = [b] → ∃ x : Int, b = .int .i64 x := by
    intro i b hi hb
    have := hall i hi
    rw [hb, List.getElem?_eq_getElem (by omega)] at this
    obtain ⟨x, e, _⟩ := DataW.trod_int u3 this
    injection e with e
    exact ⟨x, e⟩
  obtain ⟨i0, rfl⟩ := one 0 b0 (by omega) rfl
  obtain ⟨i1, rfl⟩ := one 1 b1 (by omega) rfl
  obtain ⟨i2, rfl⟩ := one 2 b2 (by omega) rfl
  obtain ⟨i3, rfl⟩ := one 3 b3 (by omega) rfl
  obtain ⟨i4, rfl⟩ := one 4 b4 (by omega) rfl
  obtain ⟨i5, rfl⟩ := one 5 b5 (by omega) rfl
  obtain ⟨i6, rfl⟩ := one 6 b6 (by omega) rfl
  obtain ⟨i7, rfl⟩ := one 7 b7 (by omega) rfl
  injection g with g
  subst g
  exact ⟨fun j => [on, i0, i1, i2, i3, i4, i5, i6, i7].getD j 0, rfl⟩
theorem l16_any (A : Option Addr) (c : Nat) (x : List Int) (g : Nat → Int) (w : World) (hr : Kd.C (Kd.int .i32) w A x.length x) (hc : x.length ≤ c) (hx : ∀ v ∈ x, I32 v) :
    Calls Try.prog 6 #[.slice A x.length c, sval g] w fun e w' => e = .returned (.bool true) ∧ Below w.heap.size w w' := by
  by_cases hl : 300 < x.length
  · exact l16_far A x.length c g w hl
  · by_cases hs : Sok g
    · by_cases hn : Nok (x.length : Int)
      · exact l16_ok A c x g (by omega) hs hn w hr hc hx
      · exact l16_nok A c x g (by omega) hs hn w hr hc hx
    · exact l16_bad A c x g (by omega) hs w hr hc hx
theorem wf32 {x : Int} (h : (Lit.int .i32 x).wf = true) : I32 x := wf_i32 h
set_option maxRecDepth 100000 in
theorem lifted (os : Os) (started : os.Started) (H : Type) (enc : TypeId × Value → H) :
    ReturnsInHanded {} Try.checked os 6 .any (Rows.shapeTurnsSpec.pre6 enc Try.prog Try.f6 Rows.shapeTurnsRow.domain false) (Rows.shapeTurnsSpec.post enc Try.prog Try.f6 false true false false) := by
  refine returnsInHanded_of_change_sized (C := Try.checked) own started (by kernel_rfl) Try.func6
    (ChangeSpec.witness6 (enc := enc) (C := Try.checked) false ⟨#[], #[.slice none 0 0, sval (fun _ => 0)], []⟩ 8 (by kernel_rfl) (by kernel_rfl) (by kernel_rfl) (by kernel_rfl)) ?_
  intro W base args ds gs before hval0 hW hcnd hsz0 _
  have hsz : (DataW.weightsEach Try.prog (Try.f6.params.toList ++ Rows.shapeTurnsSpec.plain.varTypes Try.prog) (ds ++ gs)).all (· ≤ reachBytes) = true := hsz0
  have hval : ∀ (j : Nat) t v, Try.f6.params[j]? = some t → args[j]? = some v → Value.okWide Try.prog W .any base t v := hval0
  have hW' := hW
  obtain ⟨p, q, hA0, hV, rfl, hfz, hnd⟩ := hW
  have hA : DataW.TrodAll enc Try.prog W 0 (fun _ => true) true Try.f6.params.toList args.toList ds p := hA0
  rw [Try.params6] at hA hval hsz
  obtain ⟨v0, vs0, d0, ds0, p0, q0, hargs, rfl, rfl, h0, r0⟩ := trodAll_cons hA
  obtain ⟨v1, vs1, d1, ds1, p1, q1, rfl, rfl, rfl, h1, r1⟩ := trodAll_cons r0
  obtain ⟨rfl, rfl, rfl⟩ := trodAll_nil r1
  obtain rfl : args = #[v0, v1] := by cases args; simp_all
  obtain ⟨rfl, rfl⟩ := trodVars_none hV
  obtain ⟨a0, len0, cap0, rfl⟩ := okWide_slice Try.underlying25 (hval 0 25 v0 rfl rfl)
  have k0 := h0
  have lt0 : ∀ x ∈ p0, x.block < W.heap.size := by obtain ⟨m, hm⟩ := k0; exact DataW.trod_lt m _ _ _ hm
  obtain ⟨z0, w0⟩ : ∃ zs, IsRow .i32 W a0 len0 cap0 zs := by
    obtain ⟨fuel, hf⟩ := h0
    rcases open_ints Try.underlying25 Try.underlying21 (by kernel_rfl) hf with ⟨hcs, _⟩ | ⟨x, l, c, zs, hcs, _, hl, hm, hz, _, hcell, hwz⟩
    · simp [Value.cells] at hcs
      obtain ⟨rfl, rfl, rfl⟩ := hcs
      exact ⟨[], .inl ⟨rfl, rfl, rfl, rfl⟩⟩
    · simp [Value.cells] at hcs
      obtain ⟨rfl, rfl, rfl⟩ := hcs
      exact ⟨zs, .inr ⟨_, rfl, hl, hm, by simpa using hz, hcell, hwz⟩⟩
  have k1 := h1
  have lt1 : ∀ x ∈ p1, x.block < W.heap.size := by obtain ⟨m, hm⟩ := k1; exact DataW.trod_lt m _ _ _ hm
  obtain ⟨g, rfl⟩ := open_shape (hval 1 59 v1 rfl rfl) h1
  clear hA0 hval0 hsz0 hsz
  obtain ⟨l, rfl, hrd, _, hwf, hlc⟩ := ReadsInt.ofRowC w0
  refine (l16_any a0 cap0 l g W (Kd.C_of_reads (d := (0 : Int)) hrd) hlc (fun x hx => wf32 (hwf x hx))).mono fun e W' ⟨he, bel⟩ => ?_
  subst he
  exact ⟨_, rfl, _, _, _, [], _, [], hW', trodAll_mk1 (shut_bool Try.underlying4 _), (trodAll_cons_mk (Below.trod laidOut (by kernel_rfl) (of_decide_eq_true (by kernel_rfl)) k0 bel lt0) (trodAll_cons_mk (Below.trod laidOut (by kernel_rfl) (of_decide_eq_true (by kernel_rfl)) k1 bel lt1) trodAll_mk0)), rfl, bel.frame _, fun h => by cases h⟩
theorem over : Rows.shapeTurnsRow.holds Try.pinned (OpenSpec.ofChange Rows.shapeTurnsSpec) :=
  OpenClaim.holds_of_wide 6 Try.f6 rfl rfl rfl rfl rfl rfl rfl ⟨rfl, rfl, rfl, rfl, rfl⟩ rfl rfl rfl rfl rfl (by kernel_rfl) Try.func6 (by kernel_rfl)
    (of_decide_eq_true (by kernel_rfl)) (by unfold Func.isWrapper; first | (rw [if_pos (by decide +kernel)]; kernel_rfl) | (rw [if_neg (by decide +kernel)]; exact ⟨rfl, rfl⟩))
    (fun os started H enc _ => lifted os started H enc)
theorem proved : Rows.ShapeTurnsSaid := over
#print axioms proved
end Go.Proofs.Ytojlgjdebokelab.shapeTurns
namespace Go.Proofs.Ytojlgjdebokelab
/-- The row, under a short name, for the claim. -/
theorem shapeTurns_holds : Rows.ShapeTurnsSaid := shapeTurns.proved
end Go.Proofs.Ytojlgjdebokelab
