import Derived.Test.YtojlgjdebokelabHLat
import Derived.Test.YtojlgjdebokelabHExp2
import Derived.Deep.QuietTactic
import Derived.Deep.RegionHeld3
import Derived.Outline
import Derived.Deep.DrawnRows
import Derived.StillTailTactics
import Derived.Test.YtojlgjdebokelabPLib7x
import Derived.Great.BuildSlice
import Derived.Deep.WholeRow
import Derived.Laws.MakeOwn
import Derived.Test.YtojlgjdebokelabPLib8x
set_option linter.unusedVariables false
set_option linter.unusedSimpArgs false
namespace Go.Proofs.YtojlgjdebokelabH
open Go.RowKit Go.Proofs.YtojlgjdebokelabW.PrintWords Go.Proofs.YtojlgjdebokelabW.PrintMore Go.Proofs.YtojlgjdebokelabW
theorem clone32_info : (Try.prog.info? 21).map (fun i => (i.zero, i.size, i.bytes)) = some (some (.int .i32 0), 1, 4) := by kernel_rfl
theorem below_of_grown {w w' : World} (h : w.grownBy w' none) : Below w.heap.size w w' := ⟨h.os, h.tape, h.output, h.size, fun i hi => h.block i hi (by simp)⟩
end Go.Proofs.YtojlgjdebokelabH
namespace Go.Proofs.YtojlgjdebokelabH
open Go.RowKit Go.Proofs.YtojlgjdebokelabW.PrintWords Go.Proofs.YtojlgjdebokelabW.PrintMore Go.Proofs.YtojlgjdebokelabW
attribute [local go_sem ↓] Go.wp_at_zero Go.wp_at_succ
open Go.Proofs.Ytojlgjdebokelab.PLib7
/-- A shape: its code and eight numbers, out of a function; as a value and as cells. -/
abbrev row8 (g : Nat → Int) : Array Value := #[.int .i64 (g 1), .int .i64 (g 2), .int .i64 (g 3), .int .i64 (g 4), .int .i64 (g 5), .int .i64 (g 6), .int .i64 (g 7), .int .i64 (g 8)]
abbrev row9 (g : Nat → Int) : Array Value := #[.int .i64 (g 0), .int .i64 (g 1), .int .i64 (g 2), .int .i64 (g 3), .int .i64 (g 4), .int .i64 (g 5), .int .i64 (g 6), .int .i64 (g 7), .int .i64 (g 8)]
abbrev sval (g : Nat → Int) : Value := .agg (row9 g)
theorem row9_at (g : Nat → Int) (j : Nat) (h : j < 9) : (row9 g)[j]? = some (.int .i64 (g j)) := by
  rcases j with _ | _ | _ | _ | _ | _ | _ | _ | _ | j <;> first | rfl | omega
structure Shp (w wr : World) (t : TypeId) (g : Nat → Int) : Prop where
  box : wr.heap[w.heap.size]? = some (.cells (row9 g) t (0, 0))
  grown : w.grownBy wr none
theorem Shp.start (w : World) (t : TypeId) (g : Nat → Int) : Shp w (w.alloc (.cells (row9 g) t)) t g :=
  ⟨heap_alloc_new w _, grown_of_below ((Below.refl _ _).alloc (Nat.le_refl _) _) _⟩
theorem Shp.drew {w wr : World} {t : TypeId} {g : Nat → Int} (h : Shp w wr t g) (n : Nat) : Shp w (wr.drewN n) t g := ⟨h.box, grown_drewN h.grown n⟩
theorem Shp.drew1 {w wr : World} {t : TypeId} {g : Nat → Int} (h : Shp w wr t g) : Shp w wr.drew t g := ⟨h.box, h.grown.os, h.grown.tape, h.grown.output, h.grown.size, h.grown.block⟩
theorem Shp.lt {w wr : World} {t : TypeId} {g : Nat → Int} (h : Shp w wr t g) : w.heap.size < wr.heap.size := (Array.getElem?_eq_some_iff.1 h.box).1
theorem Shp.below {w wr : World} {t : TypeId} {g : Nat → Int} (h : Shp w wr t g) : Below w.heap.size w wr := below_of_grown h.grown
theorem Shp.grow {w wr w1 : World} {t : TypeId} {g : Nat → Int} (h : Shp w wr t g) (hg : wr.grownBy w1 none) : Shp w w1 t g :=
  ⟨(hg.block _ h.lt (by simp)).trans h.box, h.grown.trans hg⟩
theorem Shp.cell {w wr : World} {t : TypeId} {g : Nat → Int} (h : Shp w wr t g) (j : Nat) (hj : j < 9) : wr.cell? ⟨w.heap.size, j, none⟩ = some (.int .i64 (g j)) := by
  have := cell_of_row wr w.heap.size j _ _ (0, 0) h.box
  rw [this, row9_at g j hj]
theorem idx8 (g : Nat → Int) (k : Nat) (hk : k < 8) : ∀ w, (Instr.index 57 (.agg (row8 g)) (.int .i64 (k : Int))).run Try.prog w = .ok (.int .i64 (g (k + 1))) w := by
  rcases k with _ | _ | _ | _ | _ | _ | _ | _ | k <;> first | omega | (intro w; kernel_rfl)
def rok (x : Int) : Prop := -4 ≤ x ∧ x ≤ 3
instance (x : Int) : Decidable (rok x) := inferInstanceAs (Decidable (_ ∧ _))
def Sok (g : Nat → Int) : Prop := (0 ≤ g 0 ∧ g 0 ≤ 15) ∧ ∀ k, k < 8 → rok (g (k + 1))
instance (g : Nat → Int) : Decidable (Sok g) := inferInstanceAs (Decidable (_ ∧ _))
set_option maxRecDepth 100000 in
set_option maxHeartbeats 4000000 in
theorem scheck_any (g : Nat → Int) (r : Int) (w : World) (hr : r = if Sok g then 0 else 1) :
    Calls Try.prog 28 #[sval g] w fun e w' => e = .returned (.int .i64 r) ∧ w.grownBy w' none := by
  have Hr := Lib.hid hr
  clear hr
  have hS := Shp.start w 61 g
  have d0 := hS.cell 0 (by omega)
  by_cases h0 : g 0 < 0
  · have g1 : decide (g 0 < 0) = true := by simpa using h0
    have hbad : Hid (¬ Sok g) := fun h => absurd h.1.1 (by omega)
    clear h0
    go_enter Try.func28, Try.ntmps28
    go_wp2
    go_ret
    exact ⟨by rw [Hr.out, if_neg hbad.out]; rfl, hS.grown⟩
  have g1 : decide (g 0 < 0) = false := by simpa using h0
  by_cases h15 : g 0 > 15
  · have g2 : decide (g 0 > 15) = true := by simpa using h15
    have hbad : Hid (¬ Sok g) := fun h => absurd h.1.2 (by omega)
    clear h0 h15
    go_enter Try.func28, Try.ntmps28
    go_wp2
    go_ret
    exact ⟨by rw [Hr.out, if_neg hbad.out]; rfl, hS.grown⟩
  have g2 : decide (g 0 > 15) = false := by simpa using h15
  have hz : Hid (0 ≤ g 0 ∧ g 0 ≤ 15) := by constructor <;> omega
  clear h0 h15
  go_enter Try.func28, Try.ntmps28
  go_wp2
  go_loopg [15] 8 (fun gk s15 wr => ∃ k : Nat, k ≤ 8 ∧ gk = 8 - k ∧ s15 = .int .i64 k ∧ wr = w.alloc (.cells (row9 g) 61) ∧ Hid (∀ i, i < k → rok (g (i + 1))))
  case atStart => exact ⟨0, by omega, rfl, rfl, rfl, fun i hi => absurd hi (by omega)⟩
  case round =>
    obtain ⟨k, hk, rfl, rfl, rfl, hq⟩ := hrel
    by_cases hlt : k < 8
    · have c1 : (k : Int) < 8 := by omega
      have q := idx8 g k hlt
      by_cases b1 : g (k + 1) < -4
      · have b2 : decide (g (k + 1) < -4) = true := by simpa using b1
        have hbad : Hid (¬ Sok g) := fun h => absurd (h.2 k hlt).1 (by omega)
        go_wp2
        go_ret
        exact ⟨by rw [Hr.out, if_neg hbad.out]; rfl, hS.grown⟩
      have b2 : decide (g (k + 1) < -4) = false := by simpa using b1
      by_cases b3 : g (k + 1) > 3
      · have b4 : decide (g (k + 1) > 3) = true := by simpa using b3
        have hbad : Hid (¬ Sok g) := fun h => absurd (h.2 k hlt).2 (by omega)
        go_wp2
        go_ret
        exact ⟨by rw [Hr.out, if_neg hbad.out]; rfl, hS.grown⟩
      have b4 : decide (g (k + 1) > 3) = false := by simpa using b3
      have hgood : Hid (rok (g (k + 1))) := by constructor <;> omega
      go_wp2
      go_roundg (8 - (k + 1))
      case rel =>
        refine ⟨k + 1, by omega, rfl, by push_cast; rfl, rfl, fun i hi => ?_⟩
        rcases Nat.lt_or_ge i k with h | h
        · exact hq.out i h
        · obtain rfl : i = k := by omega
          exact hgood.out
      case measure => omega
    · obtain rfl : k = 8 := by omega
      go_wp2
      go_ret
      exact ⟨by rw [Hr.out, if_pos ⟨hz.out, hq.out⟩]; rfl, hS.grown⟩
end Go.Proofs.YtojlgjdebokelabH

namespace Go.Proofs.YtojlgjdebokelabH
open Go.RowKit Go.Proofs.YtojlgjdebokelabW.PrintWords Go.Proofs.YtojlgjdebokelabW.PrintMore Go.Proofs.YtojlgjdebokelabW
attribute [local go_sem ↓] Go.wp_at_zero Go.wp_at_succ
open Go.Proofs.Ytojlgjdebokelab.PLib7
set_option maxRecDepth 100000 in
set_option maxHeartbeats 4000000 in
theorem rscheck_any (g : Nat → Int) (w : World) :
    Calls Try.prog 27 #[sval g] w fun e w' => e = .returned (.bool (decide (Sok g))) ∧ w.grownBy w' none := by
  have hS := Shp.start w 59 g
  have d0 := hS.cell 0 (by omega)
  have hcells : ∀ k, k < 8 → (w.alloc (.cells (row9 g) 59)).cell? ⟨w.heap.size, 1 + k, none⟩ = some (.int .i64 (g (k + 1))) := fun k hk => by
    rw [Nat.add_comm 1 k]; exact hS.cell (k + 1) (by omega)
  have Hc := Lib.hid hcells
  clear hcells
  by_cases h0 : g 0 ≥ 0
  · have g1 : decide (g 0 ≥ 0) = true := by simpa using h0
    have hb : Hid (decide (g 0 < 16) = decide (g 0 ≤ 15)) := by show _ = _; rw [Bool.eq_iff_iff]; simp; omega
    have hz : Hid (0 ≤ g 0) := h0
    clear h0
    go_enter Try.func27, Try.ntmps27
    go_wp2
    go_loopg [3, 4] 8 (fun gk s3 s4 wr => ∃ (k : Nat) (b : Bool), k ≤ 8 ∧ gk = 8 - k ∧ s4 = .int .i64 k ∧ s3 = .bool b ∧ wr = w.alloc (.cells (row9 g) 59) ∧ Hid (b = decide ((0 ≤ g 0 ∧ g 0 ≤ 15) ∧ ∀ i, i < k → rok (g (i + 1)))))
    case atStart => exact ⟨0, _, by omega, rfl, rfl, rfl, rfl, by show _ = _; rw [hb.out, Bool.eq_iff_iff]; simp [hz.out]⟩
    case round =>
      obtain ⟨k, b, hk, rfl, rfl, rfl, rfl, hq⟩ := hrel
      by_cases hlt : k < 8
      · have c1 : (k : Int) < 8 := by omega
        have q := Hc.out k hlt
        rcases b with _ | _
        · have hn : Hid (false = decide ((0 ≤ g 0 ∧ g 0 ≤ 15) ∧ ∀ i, i < k + 1 → rok (g (i + 1)))) := by
            show _ = _
            have := hq.out
            symm; rw [decide_eq_false_iff_not]; intro h
            exact absurd ⟨h.1, fun i hi => h.2 i (by omega)⟩ (of_decide_eq_false this.symm)
          go_wp2
          go_roundg (8 - (k + 1))
          case rel => exact ⟨k + 1, _, by omega, rfl, by push_cast; rfl, rfl, rfl, hn⟩
          case measure => omega
        · by_cases b1 : g (k + 1) > -5
          · have b2 : decide (g (k + 1) > -5) = true := by simpa using b1
            have hn : Hid (decide (g (k + 1) < 4) = decide ((0 ≤ g 0 ∧ g 0 ≤ 15) ∧ ∀ i, i < k + 1 → rok (g (i + 1)))) := by
              show _ = _
              have hh := of_decide_eq_true hq.out.symm
              rw [Bool.eq_iff_iff, decide_eq_true_iff, decide_eq_true_iff]
              constructor
              · intro h4
                refine ⟨hh.1, fun i hi => ?_⟩
                rcases Nat.lt_or_ge i k with h | h
                · exact hh.2 i h
                · obtain rfl : i = k := by omega
                  exact ⟨by omega, by omega⟩
              · intro h; have := (h.2 k (by omega)).2; omega
            go_wp2
            go_roundg (8 - (k + 1))
            case rel => exact ⟨k + 1, _, by omega, rfl, by push_cast; rfl, rfl, rfl, hn⟩
            case measure => omega
          · have b2 : decide (g (k + 1) > -5) = false := by simpa using b1
            have hn : Hid (false = decide ((0 ≤ g 0 ∧ g 0 ≤ 15) ∧ ∀ i, i < k + 1 → rok (g (i + 1)))) := by
              show _ = _
              symm; rw [decide_eq_false_iff_not]; intro h
              have := (h.2 k (by omega)).1; omega
            go_wp2
            go_roundg (8 - (k + 1))
            case rel => exact ⟨k + 1, _, by omega, rfl, by push_cast; rfl, rfl, rfl, hn⟩
            case measure => omega
      · obtain rfl : k = 8 := by omega
        go_wp2
        go_ret
        exact ⟨by rw [show b = decide (Sok g) from hq.out]; rfl, hS.grown⟩
  · have g1 : decide (g 0 ≥ 0) = false := by simpa using h0
    have hz : Hid (¬ 0 ≤ g 0) := h0
    clear h0
    go_enter Try.func27, Try.ntmps27
    go_wp2
    go_loopg [3, 4] 8 (fun gk s3 s4 wr => ∃ (k : Nat), k ≤ 8 ∧ gk = 8 - k ∧ s4 = .int .i64 k ∧ s3 = .bool false ∧ wr = w.alloc (.cells (row9 g) 59))
    case atStart => exact ⟨0, by omega, rfl, rfl, rfl, rfl⟩
    case round =>
      obtain ⟨k, hk, rfl, rfl, rfl, rfl⟩ := hrel
      by_cases hlt : k < 8
      · have c1 : (k : Int) < 8 := by omega
        go_wp2
        go_roundg (8 - (k + 1))
        case rel => exact ⟨k + 1, by omega, rfl, by push_cast; rfl, rfl, rfl⟩
        case measure => omega
      · obtain rfl : k = 8 := by omega
        have hn : decide (Sok g) = false := by
          rw [decide_eq_false_iff_not]; intro h; have h1 := hz.out; have h2 := h.1.1; omega
        go_wp2
        go_ret
        exact ⟨by rw [hn]; rfl, hS.grown⟩
end Go.Proofs.YtojlgjdebokelabH

namespace Go.Proofs.YtojlgjdebokelabH
open Go.RowKit Go.Proofs.YtojlgjdebokelabW.PrintWords Go.Proofs.YtojlgjdebokelabW.PrintMore Go.Proofs.YtojlgjdebokelabW
attribute [local go_sem ↓] Go.wp_at_zero Go.wp_at_succ
open Go.Proofs.Ytojlgjdebokelab.PLib7
def bookL : List (List Int) := [[0, 0, 0, 0, 0, 0, 0, 0], [192, 128, 64, 0, 0, -64, -128, -192], [384, 256, 128, 0, 0, -128, -256, -384], [512, 384, 192, 0, -64, -192, -320, -512], [-192, -128, -64, 0, 0, 64, 128, 192], [-384, -256, -128, 0, 0, 128, 256, 384], [256, 256, 0, 0, -128, -128, -128, -128], [-128, -128, 256, 256, 0, 0, -128, -128], [-192, -64, 64, 192, 192, 64, -64, -192], [192, 64, -64, -192, -192, -64, 64, 192], [512, 0, 0, -64, -64, -128, -128, -128], [0, 384, 128, 0, -64, -128, -128, -192], [0, 0, 320, 128, 0, -128, -128, -192], [-64, -64, -64, 320, 128, 0, -128, -128], [128, 128, 128, 128, -128, -128, -128, -128], [256, 128, 128, 64, 0, -64, -192, -320]]
/-- The number of a code and a band. -/
def bk (c b : Nat) : Int := (bookL.getD c []).getD b 0
def bookA : Array Value := #[.int .i64 0, .int .i64 0, .int .i64 0, .int .i64 0, .int .i64 0, .int .i64 0, .int .i64 0, .int .i64 0, .int .i64 192, .int .i64 128, .int .i64 64, .int .i64 0, .int .i64 0, .int .i64 (-64), .int .i64 (-128), .int .i64 (-192), .int .i64 384, .int .i64 256, .int .i64 128, .int .i64 0, .int .i64 0, .int .i64 (-128), .int .i64 (-256), .int .i64 (-384), .int .i64 512, .int .i64 384, .int .i64 192, .int .i64 0, .int .i64 (-64), .int .i64 (-192), .int .i64 (-320), .int .i64 (-512), .int .i64 (-192), .int .i64 (-128), .int .i64 (-64), .int .i64 0, .int .i64 0, .int .i64 64, .int .i64 128, .int .i64 192, .int .i64 (-384), .int .i64 (-256), .int .i64 (-128), .int .i64 0, .int .i64 0, .int .i64 128, .int .i64 256, .int .i64 384, .int .i64 256, .int .i64 256, .int .i64 0, .int .i64 0, .int .i64 (-128), .int .i64 (-128), .int .i64 (-128), .int .i64 (-128), .int .i64 (-128), .int .i64 (-128), .int .i64 256, .int .i64 256, .int .i64 0, .int .i64 0, .int .i64 (-128), .int .i64 (-128), .int .i64 (-192), .int .i64 (-64), .int .i64 64, .int .i64 192, .int .i64 192, .int .i64 64, .int .i64 (-64), .int .i64 (-192), .int .i64 192, .int .i64 64, .int .i64 (-64), .int .i64 (-192), .int .i64 (-192), .int .i64 (-64), .int .i64 64, .int .i64 192, .int .i64 512, .int .i64 0, .int .i64 0, .int .i64 (-64), .int .i64 (-64), .int .i64 (-128), .int .i64 (-128), .int .i64 (-128), .int .i64 0, .int .i64 384, .int .i64 128, .int .i64 0, .int .i64 (-64), .int .i64 (-128), .int .i64 (-128), .int .i64 (-192), .int .i64 0, .int .i64 0, .int .i64 320, .int .i64 128, .int .i64 0, .int .i64 (-128), .int .i64 (-128), .int .i64 (-192), .int .i64 (-64), .int .i64 (-64), .int .i64 (-64), .int .i64 320, .int .i64 128, .int .i64 0, .int .i64 (-128), .int .i64 (-128), .int .i64 128, .int .i64 128, .int .i64 128, .int .i64 128, .int .i64 (-128), .int .i64 (-128), .int .i64 (-128), .int .i64 (-128), .int .i64 256, .int .i64 128, .int .i64 128, .int .i64 64, .int .i64 0, .int .i64 (-64), .int .i64 (-192), .int .i64 (-320)]
attribute [local irreducible] wpList Code.wp
set_option maxRecDepth 100000 in
set_option maxHeartbeats 4000000 in
theorem book_any (w : World) : Calls Try.prog 68 #[] w fun e w' => e = .returned (.agg bookA) ∧ w.grownBy w' none := by
  go_enter Try.func68, Try.ntmps68
  go_upto_region 1 with fail
  apply wp_region_lit
  refine wpList_buildTo rfl 57 _ rfl (some 1) rfl #[.int .i64 0, .int .i64 0, .int .i64 0, .int .i64 0, .int .i64 0, .int .i64 0, .int .i64 0, .int .i64 0] (by as_aux_lemma => kernel_rfl) ?_
  refine wpList_buildTo rfl 57 _ rfl (some 2) rfl #[.int .i64 192, .int .i64 128, .int .i64 64, .int .i64 0, .int .i64 0, .int .i64 (-64), .int .i64 (-128), .int .i64 (-192)] (by as_aux_lemma => kernel_rfl) ?_
  refine wpList_buildTo rfl 57 _ rfl (some 3) rfl #[.int .i64 384, .int .i64 256, .int .i64 128, .int .i64 0, .int .i64 0, .int .i64 (-128), .int .i64 (-256), .int .i64 (-384)] (by as_aux_lemma => kernel_rfl) ?_
  refine wpList_buildTo rfl 57 _ rfl (some 4) rfl #[.int .i64 512, .int .i64 384, .int .i64 192, .int .i64 0, .int .i64 (-64), .int .i64 (-192), .int .i64 (-320), .int .i64 (-512)] (by as_aux_lemma => kernel_rfl) ?_
  refine wpList_buildTo rfl 57 _ rfl (some 5) rfl #[.int .i64 (-192), .int .i64 (-128), .int .i64 (-64), .int .i64 0, .int .i64 0, .int .i64 64, .int .i64 128, .int .i64 192] (by as_aux_lemma => kernel_rfl) ?_
  refine wpList_buildTo rfl 57 _ rfl (some 6) rfl #[.int .i64 (-384), .int .i64 (-256), .int .i64 (-128), .int .i64 0, .int .i64 0, .int .i64 128, .int .i64 256, .int .i64 384] (by as_aux_lemma => kernel_rfl) ?_
  refine wpList_buildTo rfl 57 _ rfl (some 7) rfl #[.int .i64 256, .int .i64 256, .int .i64 0, .int .i64 0, .int .i64 (-128), .int .i64 (-128), .int .i64 (-128), .int .i64 (-128)] (by as_aux_lemma => kernel_rfl) ?_
  refine wpList_buildTo rfl 57 _ rfl (some 8) rfl #[.int .i64 (-128), .int .i64 (-128), .int .i64 256, .int .i64 256, .int .i64 0, .int .i64 0, .int .i64 (-128), .int .i64 (-128)] (by as_aux_lemma => kernel_rfl) ?_
  refine wpList_buildTo rfl 57 _ rfl (some 9) rfl #[.int .i64 (-192), .int .i64 (-64), .int .i64 64, .int .i64 192, .int .i64 192, .int .i64 64, .int .i64 (-64), .int .i64 (-192)] (by as_aux_lemma => kernel_rfl) ?_
  refine wpList_buildTo rfl 57 _ rfl (some 10) rfl #[.int .i64 192, .int .i64 64, .int .i64 (-64), .int .i64 (-192), .int .i64 (-192), .int .i64 (-64), .int .i64 64, .int .i64 192] (by as_aux_lemma => kernel_rfl) ?_
  refine wpList_buildTo rfl 57 _ rfl (some 11) rfl #[.int .i64 512, .int .i64 0, .int .i64 0, .int .i64 (-64), .int .i64 (-64), .int .i64 (-128), .int .i64 (-128), .int .i64 (-128)] (by as_aux_lemma => kernel_rfl) ?_
  refine wpList_buildTo rfl 57 _ rfl (some 12) rfl #[.int .i64 0, .int .i64 384, .int .i64 128, .int .i64 0, .int .i64 (-64), .int .i64 (-128), .int .i64 (-128), .int .i64 (-192)] (by as_aux_lemma => kernel_rfl) ?_
  refine wpList_buildTo rfl 57 _ rfl (some 13) rfl #[.int .i64 0, .int .i64 0, .int .i64 320, .int .i64 128, .int .i64 0, .int .i64 (-128), .int .i64 (-128), .int .i64 (-192)] (by as_aux_lemma => kernel_rfl) ?_
  refine wpList_buildTo rfl 57 _ rfl (some 14) rfl #[.int .i64 (-64), .int .i64 (-64), .int .i64 (-64), .int .i64 320, .int .i64 128, .int .i64 0, .int .i64 (-128), .int .i64 (-128)] (by as_aux_lemma => kernel_rfl) ?_
  refine wpList_buildTo rfl 57 _ rfl (some 15) rfl #[.int .i64 128, .int .i64 128, .int .i64 128, .int .i64 128, .int .i64 (-128), .int .i64 (-128), .int .i64 (-128), .int .i64 (-128)] (by as_aux_lemma => kernel_rfl) ?_
  refine wpList_buildTo rfl 57 _ rfl (some 16) rfl #[.int .i64 256, .int .i64 128, .int .i64 128, .int .i64 64, .int .i64 0, .int .i64 (-64), .int .i64 (-192), .int .i64 (-320)] (by as_aux_lemma => kernel_rfl) ?_
  refine wpList_buildTo rfl 113 _ rfl (some 17) rfl bookA (by as_aux_lemma => kernel_rfl) ?_
  refine wpList_store_rowTo rfl 113 _ _ rfl rfl w.heap.size bookA (by as_aux_lemma => kernel_rfl) (by as_aux_lemma => kernel_rfl) 113 Try.zeroCells113 (heap_alloc_new w _) (by as_aux_lemma => kernel_rfl) (by as_aux_lemma => kernel_rfl) (by as_aux_lemma => kernel_rfl) ?_
  apply wpList_nil
  rename_i Q' K hK
  refine hK _ _ ?_
  refine wp_ret ?_
  rw [World.setRow_alloc_new]
  show bodyPost Try.prog Try.f68 _ _ _ _
  refine bodyPost_ret (v := .agg bookA) (results_single (r := .cell 0 113) rfl (.cell w.heap.size 113 bookA (0, 0) _ (by as_aux_lemma => kernel_rfl) (heap_alloc_new w _) Try.underlying113 rfl (by kernel_rfl) .nil)) rfl ⟨rfl, grown_of_below ((Below.refl _ _).alloc (Nat.le_refl _) _) _⟩
theorem row_at (c : Nat) (hc : c < 16) : ∀ w, (Instr.index 113 (.agg bookA) (.int .i64 (c : Int))).run Try.prog w = .ok (.agg #[.int .i64 (bk c 0), .int .i64 (bk c 1), .int .i64 (bk c 2), .int .i64 (bk c 3), .int .i64 (bk c 4), .int .i64 (bk c 5), .int .i64 (bk c 6), .int .i64 (bk c 7)]) w := by
  rcases c with _ | _ | _ | _ | _ | _ | _ | _ | _ | _ | _ | _ | _ | _ | _ | _ | c <;> first | omega | (intro w; kernel_rfl)
end Go.Proofs.YtojlgjdebokelabH

namespace Go.Proofs.YtojlgjdebokelabH
open Go.RowKit Go.Proofs.YtojlgjdebokelabW.PrintWords Go.Proofs.YtojlgjdebokelabW.PrintMore Go.Proofs.YtojlgjdebokelabW
attribute [local go_sem ↓] Go.wp_at_zero Go.wp_at_succ
open Go.Proofs.Ytojlgjdebokelab.PLib7
theorem rbook_f (c : Nat) (hc : c < 16) : psalteryref16_Book.f (c : Int) = some (bookL.getD c []) := by
  rcases c with _ | _ | _ | _ | _ | _ | _ | _ | _ | _ | _ | _ | _ | _ | _ | _ | c <;> first | omega | kernel_rfl
theorem book_len (c : Nat) (hc : c < 16) : (bookL.getD c []).length = 8 := by
  rcases c with _ | _ | _ | _ | _ | _ | _ | _ | _ | _ | _ | _ | _ | _ | _ | _ | c <;> first | omega | rfl
theorem rbook_any (g0 : Int) (w : World) (h0 : 0 ≤ g0) (h1 : g0 ≤ 15) :
    Calls Try.prog 70 #[.int .i64 g0] w fun e w' => ∃ ad c, e = .returned (.slice (some ad) 8 c) ∧ (∀ b, b < 8 → w'.cell? (ad.add b) = some (.int .i64 (bk g0.toNat b))) ∧ Below w.heap.size w w' := by
  obtain ⟨c, rfl⟩ := Int.eq_ofNat_of_zero_le h0
  have hc : c < 16 := by omega
  refine (psalteryref16_Book.calls _ _ w (rbook_f c hc)).mono ?_
  rintro e w' ⟨v, rfl, hV, hb⟩
  have hl := book_len c hc
  obtain ⟨A, c1, rfl, hcc, hF⟩ := hV
  have hC : Kd.C (Kd.int .i64) w' A (bookL.getD c []).length (bookL.getD c []) := hF w' (fun _ _ _ => rfl)
  have hall : ∀ b, b < 8 → ∃ ad, A = some ad ∧ w'.cell? (ad.add b) = some (.int .i64 (bk c b)) := fun b hb => by
    obtain ⟨ad, rfl, hc⟩ := Kd.at_int hC (b : Int) (by omega) (by omega)
    exact ⟨ad, rfl, hc⟩
  obtain ⟨ad, rfl, -⟩ := hall 0 (by omega)
  rw [hl]
  refine ⟨ad, c1, rfl, fun b hb => ?_, hb⟩
  obtain ⟨ad', h, hc'⟩ := hall b hb
  cases h
  exact hc'
def sayv (g : Nat → Int) (b : Nat) : Int := IntKind.i32.wrap (IntKind.i64.wrap (bk (g 0).toNat b + IntKind.i64.wrap (g (b + 1) * 128)))
set_option maxRecDepth 100000 in
theorem rsays_any (g : Nat → Int) (b : Nat) (w : World) (hb : b < 8) (h0 : 0 ≤ g 0) (h1 : g 0 ≤ 15) :
    Calls Try.prog 29 #[sval g, .int .i64 b] w fun e w' => e = .returned (.int .i32 (sayv g b)) ∧ Below w.heap.size w w' := by
  have hS := Shp.start w 59 g
  have k0 := hS.cell 0 (by omega)
  have k1 := hS.cell (b + 1) (by omega)
  rw [show (⟨w.heap.size, b + 1, none⟩ : Addr) = ⟨w.heap.size, 1 + b, none⟩ by rw [Nat.add_comm]] at k1
  have c0 : (b : Int) < 8 := by omega
  have H0 := Lib.hid h0
  have H1 := Lib.hid h1
  have Hb := Lib.hid hb
  have HS := Lib.hid hS
  clear hS hb h0 h1
  go_enter Try.func29, Try.ntmps29
  go_wp2
  go_region_with (go_at_call 70; refine (rbook_any (g 0) _ H0.out H1.out).mono ?_; rintro e w1 ⟨ad, c1, rfl, hall, hb1⟩; (have k2 := hall b Hb.out); (have k3 : w1.cell? ⟨w.heap.size, 0, none⟩ = some (.int .i64 (g 0)) := (hb1.cell (World.block_lt_of_cell? _ _ k0)).trans k0); (have k4 : w1.cell? ⟨w.heap.size, 1 + b, none⟩ = some (.int .i64 (g (b + 1))) := (hb1.cell (World.block_lt_of_cell? _ _ k1)).trans k1); (have HB := Lib.hid hb1); clear hb1 hall)
  all_goals
    go_wp2
    go_ret
    exact ⟨rfl, below_then (HS.out.drew 1).below (by simp) HB.out⟩
end Go.Proofs.YtojlgjdebokelabH

namespace Go.Proofs.YtojlgjdebokelabH
open Go.RowKit Go.Proofs.YtojlgjdebokelabW.PrintWords Go.Proofs.YtojlgjdebokelabW.PrintMore Go.Proofs.YtojlgjdebokelabW
attribute [local go_sem ↓] Go.wp_at_zero Go.wp_at_succ
open Go.Proofs.Ytojlgjdebokelab.PLib7
def edgeL (n : Int) : List Int := if n = 40 then [0, 2, 4, 7, 11, 16, 23, 31, 40] else if n = 60 then [0, 3, 6, 10, 16, 24, 34, 46, 60] else if n = 80 then [0, 4, 8, 14, 22, 32, 46, 62, 80] else [0, 6, 12, 21, 33, 48, 69, 93, 120]
def edg (n : Int) (k : Nat) : Int := (edgeL n).getD k 0
def Nok (n : Int) : Prop := n = 40 ∨ n = 60 ∨ n = 80 ∨ n = 120
instance (n : Int) : Decidable (Nok n) := inferInstanceAs (Decidable (_ ∨ _))
set_option maxRecDepth 100000 in
theorem edges_ok (n : Int) (w : World) (hn : Nok n) :
    Calls Try.prog 112 #[.int .i64 n] w fun e w' => e = .returned (.tuple #[sval (edg n), .bool true]) ∧ Below w.heap.size w w' := by
  rcases hn with rfl | rfl | rfl | rfl
  all_goals
    go_enter Try.func112, Try.ntmps112
    go_wp2
    exact bodyPost_ret (v := .tuple #[sval (edg _), .bool true]) (results_list (rs := [.cell 2 170, .tmp 3]) rfl (by simp) (.cell w.heap.size 170 _ (0, 0) _ rfl (heap_alloc_new w _) Try.underlying170 rfl (by kernel_rfl) (.tmp .nil))) rfl ⟨rfl, (Below.refl _ _).alloc (Nat.le_refl _) _⟩
set_option maxRecDepth 100000 in
theorem edges_no (n : Int) (w : World) (hn : ¬ Nok n) :
    Calls Try.prog 112 #[.int .i64 n] w fun e w' => e = .returned (.tuple #[sval (fun _ => 0), .bool false]) ∧ Below w.heap.size w w' := by
  have h1 : ¬ n = 40 := fun h => hn (.inl h)
  have h2 : ¬ n = 60 := fun h => hn (.inr (.inl h))
  have h3 : ¬ n = 80 := fun h => hn (.inr (.inr (.inl h)))
  have h4 : ¬ n = 120 := fun h => hn (.inr (.inr (.inr h)))
  have g1 : (n == 40) = false := by simpa using h1
  have g2 : (n == 60) = false := by simpa using h2
  have g3 : (n == 80) = false := by simpa using h3
  have g4 : (n == 120) = false := by simpa using h4
  clear hn h1 h2 h3 h4
  go_enter Try.func112, Try.ntmps112
  go_wp2
  exact bodyPost_ret (v := .tuple #[sval (fun _ => 0), .bool false]) (results_list (rs := [.cell 2 170, .tmp 3]) rfl (by simp) (.cell w.heap.size 170 _ (0, 0) _ rfl (heap_alloc_new w _) Try.underlying170 rfl (by kernel_rfl) (.tmp .nil))) rfl ⟨rfl, (Below.refl _ _).alloc (Nat.le_refl _) _⟩
set_option maxRecDepth 100000 in
theorem bedges_ok (n : Int) (w : World) (hn : Nok n) :
    Calls Try.prog 96 #[.int .i64 n] w fun e w' => ∃ B, e = .returned (.tuple #[.slice (some ⟨B, 0, none⟩) 9 9, .int .i64 0]) ∧ w'.heap[B]? = some (.cells (row9 (edg n)) 170 (0, 0)) ∧ w.heap.size ≤ B ∧ Below w.heap.size w w' := by
  have C := Lib.hid (edges_ok n w hn)
  clear hn
  go_enter Try.func96, Try.ntmps96
  go_wp2_with (refine C.out.mono ?_; rintro e w1 ⟨rfl, hb⟩; (have HB := Lib.hid hb); clear hb C)
  go_ret2
  exact ⟨_, rfl, heap_alloc_new _ _, HB.out.size, HB.out.alloc HB.out.size _⟩
set_option maxRecDepth 100000 in
theorem bedges_no (n : Int) (w : World) (hn : ¬ Nok n) :
    Calls Try.prog 96 #[.int .i64 n] w fun e w' => e = .returned (.tuple #[.slice none 0 0, .int .i64 1]) ∧ Below w.heap.size w w' := by
  have C := Lib.hid (edges_no n w hn)
  clear hn
  go_enter Try.func96, Try.ntmps96
  go_wp2_with (refine C.out.mono ?_; rintro e w1 ⟨rfl, hb⟩; (have HB := Lib.hid hb); clear hb C)
  go_ret2
  exact ⟨rfl, HB.out.alloc HB.out.size _⟩
end Go.Proofs.YtojlgjdebokelabH

namespace Go.Proofs.YtojlgjdebokelabH
open Go.RowKit Go.Proofs.YtojlgjdebokelabW.PrintWords Go.Proofs.YtojlgjdebokelabW.PrintMore Go.Proofs.YtojlgjdebokelabW
attribute [local go_sem ↓] Go.wp_at_zero Go.wp_at_succ
open Go.Proofs.Ytojlgjdebokelab.PLib7
theorem idx8b (h : Nat → Int) (k : Nat) (hk : k < 8) : ∀ w, (Instr.index 57 (.agg #[.int .i64 (h 0), .int .i64 (h 1), .int .i64 (h 2), .int .i64 (h 3), .int .i64 (h 4), .int .i64 (h 5), .int .i64 (h 6), .int .i64 (h 7)]) (.int .i64 (k : Int))).run Try.prog w = .ok (.int .i64 (h k)) w := by
  rcases k with _ | _ | _ | _ | _ | _ | _ | _ | k <;> first | omega | (intro w; kernel_rfl)
def saysL (g : Nat → Int) : List Int := (List.range 8).map (sayv g)
theorem saysL_len (g : Nat → Int) : (saysL g).length = 8 := by simp [saysL]
theorem saysL_rd (g : Nat → Int) (k : Nat) (h : k < 8) : rd (saysL g) (k : Int) = sayv g k := by
  unfold saysL rd
  rw [Int.toNat_natCast, List.getD_eq_getElem?_getD]
  simp [h]
def fv (x : List Int) (k : Nat) : List Int := x.take k ++ List.replicate (x.length - k) 0
theorem fv_len (x : List Int) (k : Nat) (h : k ≤ x.length) : (fv x k).length = x.length := by unfold fv; simp; omega
theorem fv_zero (x : List Int) : fv x 0 = List.replicate x.length 0 := by unfold fv; simp
theorem fv_all (x : List Int) : fv x x.length = x := by unfold fv; simp
theorem fv_step (x : List Int) (k : Nat) (h : k < x.length) : (fv x k).set k (rd x (k : Int)) = fv x (k + 1) := by
  unfold fv
  have h1 : (x.take k).length = k := by simp; omega
  rw [List.set_append_right _ _ (by omega), h1, Nat.sub_self]
  have h2 : List.replicate (x.length - k) (0 : Int) = 0 :: List.replicate (x.length - (k + 1)) 0 := by
    rw [show x.length - k = (x.length - (k + 1)) + 1 by omega, List.replicate_succ]
  rw [h2, List.set_cons_zero]
  have h3 : x.take (k + 1) = x.take k ++ [rd x (k : Int)] := by
    rw [List.take_add_one]
    congr 1
    unfold rd
    rw [Int.toNat_natCast, List.getD_eq_getElem?_getD, List.getElem?_eq_getElem h]
    rfl
  rw [h3]; simp
structure SyRel (g : Nat → Int) (W : Nat) (w wr : World) (ys : List Int) : Prop where
  box : wr.heap[w.heap.size]? = some (.cells (row9 g) 61 (0, 0))
  row : Kd.R (Kd.int .i32) 21 wr w.heap.size (fun _ => True) (.slice (some ⟨W, 0, none⟩) 8 8) ys
  ne : w.heap.size < W
  below : Below w.heap.size w wr
theorem SyRel.put {g : Nat → Int} {W : Nat} {w wr : World} {ys : List Int} (h : SyRel g W w wr ys) (j : Nat) (x : Int) : SyRel g W w (wr.setCell ⟨W, j, none⟩ (.int .i32 x)) (ys.set j x) := by
  have hp := Kd.R_putn h.row (j : Int) x
  rw [Int.toNat_natCast] at hp
  have hn := h.ne
  exact ⟨blk_far h.box (by show w.heap.size ≠ W; omega) _, hp, h.ne, h.below.setCell (by show w.heap.size ≤ W; omega) _⟩
theorem SyRel.cell {g : Nat → Int} {W : Nat} {w wr : World} {ys : List Int} (h : SyRel g W w wr ys) (j : Nat) (hj : j < 9) : wr.cell? ⟨w.heap.size, j, none⟩ = some (.int .i64 (g j)) := by
  have := cell_of_row wr w.heap.size j _ _ (0, 0) h.box
  rw [this, row9_at g j hj]
set_option maxRecDepth 100000 in
set_option maxHeartbeats 4000000 in
theorem says_bad (g : Nat → Int) (w : World) (hs : ¬ Sok g) :
    Calls Try.prog 24 #[sval g] w fun e w' => e = .returned (.tuple #[.slice none 0 0, .int .i64 1]) ∧ Below w.heap.size w w' := by
  have hS := Lib.hid (Shp.start w 61 g)
  have C := Lib.hid (scheck_any g 1 (w.alloc (.cells (row9 g) 61)) (by rw [if_neg hs]))
  clear hs
  go_enter Try.func24, Try.ntmps24
  go_wp2_with (refine C.out.mono ?_; rintro e w1 ⟨rfl, hb⟩; (replace hS := Lib.hid (hS.out.grow hb)); clear hb C)
  go_ret2
  exact ⟨rfl, hS.out.below⟩
theorem R_made32 (W : World) (base : Nat) (hb : base ≤ W.heap.size) (N : Nat) (hN : N ≤ 9223372036854775807) : Kd.R (Kd.int .i32) 21 (W.alloc (.cells (madeCells #[.int .i32 0] N) 21)) base (fun _ => True) (.slice (some ⟨W.heap.size, 0, none⟩) N N) (List.replicate N 0) := by
  have h := own_made W base 21 .i32 N hb hN
  refine Kd.R_of_own ?_ (fun _ _ => trivial)
  have : (List.replicate N (0 : Int)).length = N := by simp
  rw [this]
  exact h
set_option maxRecDepth 100000 in
set_option maxHeartbeats 4000000 in
theorem says_any (g : Nat → Int) (w : World) (hs : Sok g) :
    Calls Try.prog 24 #[sval g] w fun e w' => ∃ v, e = .returned (.tuple #[v, .int .i64 0]) ∧ Kd.R (Kd.int .i32) 21 w' w.heap.size (fun _ => True) v (saysL g) ∧ Below w.heap.size w w' := by
  have hS := Lib.hid (Shp.start w 61 g)
  have C := Lib.hid (scheck_any g 0 (w.alloc (.cells (row9 g) 61)) (by rw [if_pos hs]))
  have Hs := Lib.hid hs
  clear hs
  have hmk : ∀ W : World, (Instr.makeSlice 25 (.int .i64 8) (.int .i64 8)).run Try.prog W = .ok (.slice (some ⟨W.heap.size, 0, none⟩) 8 8) (W.alloc (.cells (madeCells #[.int .i32 0] 8) 21)) := fun W => print_make 25 21 .i32 4 Try.underlying25 clone32_info (by decide) 8 (by omega) W
  have hc0 : Hid (∃ c : Nat, c < 16 ∧ g 0 = (c : Int)) := ⟨(g 0).toNat, by have := Hs.out.1; omega, by have := Hs.out.1; omega⟩
  obtain ⟨c, hc, hg0⟩ := hc0.out
  have q := row_at c hc
  have hcd := Lib.hid hc
  have hg := Lib.hid hg0
  clear hc0 hc hg0
  go_enter Try.func24, Try.ntmps24
  go_wp2_with (refine C.out.mono ?_; rintro e w1 ⟨rfl, hb⟩; (replace hS := Lib.hid (hS.out.grow hb)); clear hb C)
  have k0 : (w1.alloc (.cells (madeCells #[.int .i32 0] 8) 21)).cell? ⟨w.heap.size, 0, none⟩ = some (.int .i64 (g 0)) := by
    have := (hS.out.grow (grown_of_below ((Below.refl _ w1).alloc (Nat.le_refl _) (.cells (madeCells #[.int .i32 0] 8) 21)) none)).cell 0 (by omega)
    exact this
  rw [hg.out] at k0
  go_region_with (go_at_call 68; refine (book_any _).mono ?_; rintro e w2 ⟨rfl, hb⟩; (have k1 : w2.cell? ⟨w.heap.size, 0, none⟩ = some (.int .i64 (c : Int)) := (below_of_grown hb).cell (World.block_lt_of_cell? _ _ k0) |>.trans k0); (have HB := Lib.hid hb); clear hb)
  all_goals
    have hSy : Hid (SyRel g w1.heap.size w w2 (fv (saysL g) 0)) := by
      have hlt := hS.out.lt
      have hgA : Shp w (w1.alloc (.cells (madeCells #[.int .i32 0] 8) 21)) 61 g := hS.out.grow (grown_of_below ((Below.refl _ w1).alloc (Nat.le_refl _) _) none)
      have hg2 : (w1.alloc (.cells (madeCells #[.int .i32 0] 8) 21)).drew.grownBy w2 none := HB.out
      have hSg := hgA.drew1.grow hg2
      refine ⟨hSg.box, ?_, hlt, hSg.below⟩
      rw [fv_zero, saysL_len]
      exact Kd.R_grown (Kd.R_drewN (R_made32 w1 w.heap.size (by omega) 8 (by omega)) 1) hg2 (fun k hk => by simp)
    clear k0 k1 HB
    go_wp2
    go_loopg [6, 7, 18] 8 (fun gk s6 s7 s18 wr => ∃ k : Nat, k ≤ 8 ∧ gk = 8 - k ∧ s18 = .int .i64 k ∧ Hid (SyRel g w1.heap.size w wr (fv (saysL g) k)))
    case atStart => exact ⟨0, by omega, rfl, rfl, hSy⟩
    case round =>
      obtain ⟨k, hk, rfl, rfl, hM⟩ := hrel
      by_cases hlt : k < 8
      · have c1 : (k : Int) < 8 := by omega
        have c0 : (0 : Int) ≤ (k : Int) := by omega
        have q2 := idx8b (bk c) k hlt
        have d1 := hM.out.cell (k + 1) (by omega)
        rw [show (⟨w.heap.size, k + 1, none⟩ : Addr) = ⟨w.heap.size, 1 + k, none⟩ by rw [Nat.add_comm]] at d1
        have hR := Kd.R_celln (0 : Int) hM.out.row (k : Int) c0 (by push_cast; omega)
        rw [Int.toNat_natCast] at hR
        obtain ⟨d2, d3⟩ := hR
        have hst : Hid (IntKind.i32.wrap (IntKind.i64.wrap (bk c k + IntKind.i64.wrap (128 * g (k + 1)))) = rd (saysL g) (k : Int)) := by
          show _ = _
          rw [saysL_rd g k hlt, Int.mul_comm]
          unfold sayv
          rw [hg.out, Int.toNat_natCast]
        go_wp2
        go_roundg (8 - (k + 1))
        case rel => exact ⟨k + 1, by omega, rfl, by push_cast; rfl, by
          have := hM.out.put k (rd (saysL g) (k : Int))
          rw [fv_step _ _ (by rw [saysL_len]; exact hlt), ← hst.out] at this
          simp only [IntWalk.i64_left, IntWalk.i32_left] at this
          exact this⟩
        case measure => omega
      · obtain rfl : k = 8 := by omega
        have hL : fv (saysL g) 8 = saysL g := by
          have := fv_all (saysL g); rw [saysL_len] at this; exact this
        have hM2 := hM.out
        rw [hL] at hM2
        go_wp2
        go_ret2
        exact ⟨_, rfl, hM2.row, hM2.below⟩
end Go.Proofs.YtojlgjdebokelabH

namespace Go.Proofs.YtojlgjdebokelabH
open Go.RowKit Go.Proofs.YtojlgjdebokelabW.PrintWords Go.Proofs.YtojlgjdebokelabW.PrintMore Go.Proofs.YtojlgjdebokelabW
attribute [local go_sem ↓] Go.wp_at_zero Go.wp_at_succ
open Go.Proofs.Ytojlgjdebokelab.PLib7
theorem Shp.cellB {w wr wq : World} {t : TypeId} {g : Nat → Int} (h : Shp w wr t g) (hb : Below wr.heap.size wr wq) (j : Nat) (hj : j < 9) : wq.cell? ⟨w.heap.size, j, none⟩ = some (.int .i64 (g j)) :=
  (hb.cell (World.block_lt_of_cell? _ _ (h.cell j hj))).trans (h.cell j hj)
theorem room32 (W : World) (base : Nat) (hb : base ≤ W.heap.size) (n : Nat) (hn : n ≤ 20000) :
    ∃ w', (Instr.makeSlice 25 (.int .i64 0) (.int .i64 (n : Int))).run Try.prog W = .ok (.slice (some ⟨W.heap.size, 0, none⟩) 0 n) w' ∧
      Kd.R (Kd.int .i32) 21 w' base (fun _ => True) (.slice (some ⟨W.heap.size, 0, none⟩) 0 n) [] ∧ W.grownBy w' none := by
  have hz := clone32_info
  cases hi : Try.prog.info? 21 with
  | none => rw [hi] at hz; cases hz
  | some i =>
    rw [hi] at hz
    simp only [Option.map_some, Option.some.injEq, Prod.mk.injEq] at hz
    obtain ⟨z1, z2, z3⟩ := hz
    obtain ⟨w', h1, h2, h3⟩ := run_make_own (P := Try.prog) W base 25 21 i _ 1 Try.underlying25 hi z1 z2 .i64 .i64 n (by rw [z3]; omega) (by unfold maxLen; omega) hb
    exact ⟨w', h1, Kd.R_of_own h2 (fun _ _ => trivial), h3⟩
set_option maxRecDepth 100000 in
theorem turned_badx (A : Option Addr) (n c : Nat) (g : Nat → Int) (sg : Int) (w : World) (hn : ¬ Nok (n : Int)) :
    Calls Try.prog 69 #[.slice A n c, sval g, .int .i32 sg] w fun e w' => e = .returned (.tuple #[.slice none 0 0, .int .i64 1]) ∧ Below w.heap.size w w' := by
  have hS := Lib.hid (Shp.start w 61 g)
  have C := Lib.hid (bedges_no (n : Int) (w.alloc (.cells (row9 g) 61)) hn)
  clear hn
  go_enter Try.func69, Try.ntmps69
  go_wp2_with (refine C.out.mono ?_; rintro e w1 ⟨rfl, hb⟩; (have HB := Lib.hid hb); clear hb C)
  go_ret2
  exact ⟨rfl, below_then hS.out.below (by simp) HB.out⟩
set_option maxRecDepth 100000 in
theorem turned_bads (A : Option Addr) (n c : Nat) (g : Nat → Int) (sg : Int) (w : World) (hn : Nok (n : Int)) (hs : ¬ Sok g) :
    Calls Try.prog 69 #[.slice A n c, sval g, .int .i32 sg] w fun e w' => e = .returned (.tuple #[.slice none 0 0, .int .i64 1]) ∧ Below w.heap.size w w' := by
  have hS := Lib.hid (Shp.start w 61 g)
  have C := Lib.hid (bedges_ok (n : Int) (w.alloc (.cells (row9 g) 61)) hn)
  have D := fun W => Lib.hid (says_bad g W hs)
  clear hn hs
  go_enter Try.func69, Try.ntmps69
  go_wp2_with fail
  refine C.out.mono ?_
  rintro e w1 ⟨B, rfl, hB, hBl, hb⟩
  have HB := Lib.hid hb
  have d0 := hS.out.cellB HB.out 0 (by omega)
  have d1 := hS.out.cellB HB.out 1 (by omega)
  have d2 := hS.out.cellB HB.out 2 (by omega)
  have d3 := hS.out.cellB HB.out 3 (by omega)
  have d4 := hS.out.cellB HB.out 4 (by omega)
  have d5 := hS.out.cellB HB.out 5 (by omega)
  have d6 := hS.out.cellB HB.out 6 (by omega)
  have d7 := hS.out.cellB HB.out 7 (by omega)
  have d8 := hS.out.cellB HB.out 8 (by omega)
  clear hB hBl hb C
  go_wp2_with fail
  refine (D w1).out.mono ?_
  rintro e w2 ⟨rfl, hb2⟩
  have HB2 := Lib.hid hb2
  clear hb2 d0 d1 d2 d3 d4 d5 d6 d7 d8 D
  go_wp2
  go_ret2
  have hB2 := below_then hS.out.below (by simp) HB.out
  exact ⟨rfl, below_then hB2 hB2.size HB2.out⟩
end Go.Proofs.YtojlgjdebokelabH

namespace Go.Proofs.YtojlgjdebokelabH
open Go.RowKit Go.Proofs.YtojlgjdebokelabW.PrintWords Go.Proofs.YtojlgjdebokelabW.PrintMore Go.Proofs.YtojlgjdebokelabW
open Go.Proofs.Ytojlgjdebokelab.PLib7
/-- The band of a line. -/
def bnd (n : Int) (i : Nat) : Nat := ((List.range 7).filter fun k => decide (edg n (k + 1) ≤ (i : Int))).length
theorem bnd_at (n : Int) (hn : Nok n) (b : Nat) (hb : b < 8) (i : Nat) (h0 : edg n b ≤ (i : Int)) (h1 : (i : Int) < edg n (b + 1)) : bnd n i = b := by
  have key : ∀ m ∈ ([40, 60, 80, 120] : List Int), ∀ b < 8, ∀ i < 120, edg m b ≤ ((i : Nat) : Int) → ((i : Nat) : Int) < edg m (b + 1) → bnd m i = b := by decide +kernel
  have top : ∀ m ∈ ([40, 60, 80, 120] : List Int), ∀ b < 8, edg m (b + 1) ≤ 120 := by decide +kernel
  have hm : n ∈ ([40, 60, 80, 120] : List Int) := by rcases hn with rfl | rfl | rfl | rfl <;> decide
  have := top n hm b hb
  exact key n hm b hb i (by omega) h0 h1
theorem edg_bd (n : Int) (hn : Nok n) (b : Nat) (hb : b < 8) : 0 ≤ edg n b ∧ edg n b ≤ edg n (b + 1) ∧ edg n (b + 1) ≤ n := by
  have key : ∀ m ∈ ([40, 60, 80, 120] : List Int), ∀ b < 8, 0 ≤ edg m b ∧ edg m b ≤ edg m (b + 1) ∧ edg m (b + 1) ≤ m := by decide +kernel
  have hm : n ∈ ([40, 60, 80, 120] : List Int) := by rcases hn with rfl | rfl | rfl | rfl <;> decide
  exact key n hm b hb
theorem edg_ends (n : Int) (hn : Nok n) : edg n 0 = 0 ∧ edg n 8 = n := by
  rcases hn with rfl | rfl | rfl | rfl <;> decide
theorem rband_f (n : Int) (hn : Nok n) (i : Nat) (hi : (i : Int) < n) : psalteryref15_Band.f 12 n (i : Int) = some (bnd n i : Int) := by
  have key : ∀ m ∈ ([40, 60, 80, 120] : List Int), ∀ i < 120, ((i : Nat) : Int) < m → psalteryref15_Band.f 12 m (i : Int) = some (bnd m i : Int) := by decide +kernel
  have top : ∀ m ∈ ([40, 60, 80, 120] : List Int), m ≤ 120 := by decide
  have hm : n ∈ ([40, 60, 80, 120] : List Int) := by rcases hn with rfl | rfl | rfl | rfl <;> decide
  have := top n hm
  exact key n hm i (by omega) hi
theorem bnd_lt (n : Int) (i : Nat) : bnd n i < 8 := by
  unfold bnd
  have := List.length_filter_le (fun k => decide (edg n (k + 1) ≤ (i : Int))) (List.range 7)
  simp at this
  omega
end Go.Proofs.YtojlgjdebokelabH

namespace Go.Proofs.YtojlgjdebokelabH
open Go.RowKit Go.Proofs.YtojlgjdebokelabW.PrintWords Go.Proofs.YtojlgjdebokelabW.PrintMore Go.Proofs.YtojlgjdebokelabW
attribute [local go_sem ↓] Go.wp_at_zero Go.wp_at_succ
open Go.Proofs.Ytojlgjdebokelab.PLib7
/-- A line, times a power of two. -/
def tval (x : List Int) (g : Nat → Int) (sg : Int) (i : Nat) : Int :=
  clamp (rnd (wrap64 (rd x (i : Int) * wrap64 (expf (wrap32 (sg * sayv g (bnd x.length i)))).1)) 16) (-2147483648) 2147483647
def turnL (x : List Int) (g : Nat → Int) (sg : Int) : List Int := (List.range x.length).map (tval x g sg)
structure TuRel (n : Int) (g : Nat → Int) (B SB L : Nat) (w wr : World) (v : Value) (ys : List Int) : Prop where
  edges : wr.heap[B]? = some (.cells (row9 (edg n)) 170 (0, 0))
  says : ∀ k, k < 8 → wr.cell? ⟨SB, k, none⟩ = some (.int .i32 (sayv g k))
  row : Kd.R (Kd.int .i32) 21 wr w.heap.size (fun k => L ≤ k) v ys
  ne : B < L ∧ SB < L ∧ w.heap.size ≤ L ∧ L ≤ wr.heap.size
  below : Below w.heap.size w wr
theorem TuRel.drew {n : Int} {g : Nat → Int} {B SB L : Nat} {w wr : World} {v : Value} {ys : List Int} (h : TuRel n g B SB L w wr v ys) (k : Nat) : TuRel n g B SB L w (wr.drewN k) v ys :=
  ⟨blk_drewN h.edges k, h.says, Kd.R_drewN h.row k, h.ne, pw_below_drewN h.below k⟩
theorem TuRel.edge {n : Int} {g : Nat → Int} {B SB L : Nat} {w wr : World} {v : Value} {ys : List Int} (h : TuRel n g B SB L w wr v ys) (j : Nat) (hj : j < 9) : wr.cell? ⟨B, j, none⟩ = some (.int .i64 (edg n j)) := by
  have := cell_of_row wr B j _ _ (0, 0) h.edges
  rw [this, row9_at _ j hj]
theorem TuRel.push {n : Int} {g : Nat → Int} {B SB L : Nat} {w wr w1 : World} {v v1 : Value} {ys zs : List Int} (h : TuRel n g B SB L w wr v ys) (hg : wr.grownBy w1 v.ownBlock) (hR : Kd.R (Kd.int .i32) 21 w1 w.heap.size (fun k => L ≤ k) v1 zs) (hB : Below w.heap.size w w1) : TuRel n g B SB L w w1 v1 zs := by
  obtain ⟨n1, n2, n3, n4⟩ := h.ne
  refine ⟨blk_grown h.edges hg (Kd.R_ne h.row h.edges (by decide)), fun k hk => ?_, hR, ⟨n1, n2, n3, Nat.le_trans n4 hg.size⟩, hB⟩
  exact (hg.cell_far ⟨SB, k, none⟩ (by show SB < wr.heap.size; omega) (fun e => by have := h.row.1 SB e.symm; omega)).trans (h.says k hk)
theorem turnL_snoc (x : List Int) (g : Nat → Int) (sg : Int) (i : Nat) (h : i < x.length) : (turnL x g sg).take i ++ [tval x g sg i] = (turnL x g sg).take (i + 1) := by
  unfold turnL
  rw [List.take_succ_eq_append_getElem (by simpa using h)]
  simp
theorem turnL_len (x : List Int) (g : Nat → Int) (sg : Int) : (turnL x g sg).length = x.length := by simp [turnL]
theorem i64_bd (n : Int) : -9223372036854775808 ≤ wrap64 n ∧ wrap64 n ≤ 9223372036854775807 := by
  unfold wrap64; omega
theorem edg_lt (n : Int) (hn : Nok n) (b : Nat) (hb : b < 8) : edg n b < edg n (b + 1) := by
  have key : ∀ m ∈ ([40, 60, 80, 120] : List Int), ∀ b < 8, edg m b < edg m (b + 1) := by decide +kernel
  have hm : n ∈ ([40, 60, 80, 120] : List Int) := by rcases hn with rfl | rfl | rfl | rfl <;> decide
  exact key n hm b hb
set_option maxRecDepth 100000 in
set_option maxHeartbeats 4000000 in
theorem turned_any (A : Option Addr) (c : Nat) (x : List Int) (g : Nat → Int) (sg : Int) (w : World) (hcap : x.length ≤ c) (hC : Kd.C (Kd.int .i32) w A x.length x) (hx : ∀ v ∈ x, I32 v) (hn : Nok (x.length : Int)) (hs : Sok g) (hsg : sg = 1 ∨ sg = -1) :
    Calls Try.prog 69 #[.slice A x.length c, sval g, .int .i32 sg] w fun e w' => ∃ v, e = .returned (.tuple #[v, .int .i64 0]) ∧ Kd.R (Kd.int .i32) 21 w' w.heap.size (fun _ => True) v (turnL x g sg) ∧ Below w.heap.size w w' := by
  have hS := Lib.hid (Shp.start w 61 g)
  have C := Lib.hid (bedges_ok (x.length : Int) (w.alloc (.cells (row9 g) 61)) hn)
  have D := fun W => Lib.hid (says_any g W hs)
  have HN := Lib.hid hn
  have HX := Lib.hid hx
  have HC := Lib.hid hC
  obtain ⟨ad, rfl⟩ : ∃ ad, A = some ad := by
    obtain ⟨ad, h, -⟩ := Kd.at_int hC (0 : Int) (by omega) (by rcases hn with h | h | h | h <;> omega)
    exact ⟨ad, h⟩
  clear hn hs hx hC
  go_enter Try.func69, Try.ntmps69
  go_wp2_with fail
  refine C.out.mono ?_
  rintro e w1 ⟨B, rfl, hB, hBl, hb⟩
  have HB := Lib.hid hb
  have d0 := hS.out.cellB HB.out 0 (by omega)
  have d1 := hS.out.cellB HB.out 1 (by omega)
  have d2 := hS.out.cellB HB.out 2 (by omega)
  have d3 := hS.out.cellB HB.out 3 (by omega)
  have d4 := hS.out.cellB HB.out 4 (by omega)
  have d5 := hS.out.cellB HB.out 5 (by omega)
  have d6 := hS.out.cellB HB.out 6 (by omega)
  have d7 := hS.out.cellB HB.out 7 (by omega)
  have d8 := hS.out.cellB HB.out 8 (by omega)
  clear C
  go_wp2_with fail
  refine (D w1).out.mono ?_
  rintro e w2 ⟨v, rfl, hR, hb2⟩
  have HB2 := Lib.hid hb2
  clear d0 d1 d2 d3 d4 d5 d6 d7 d8 D
  have hl20 : x.length ≤ 20000 := by rcases HN.out with h | h | h | h <;> omega
  obtain ⟨w3, hmk, hO, hg⟩ := room32 w2 w.heap.size (by have := HB.out.size; have := hb2.size; simp at *; omega) x.length hl20
  obtain ⟨Sv, cs, rfl, hcs, hCs⟩ := Kd.R_reads hR
  go_wp2_with fail
  obtain ⟨SB, hSv⟩ : ∃ SB, Sv = some ⟨SB, 0, none⟩ := by
    obtain ⟨ad, rfl, -⟩ := hCs.2.2 (by rw [saysL_len]; omega)
    obtain ⟨b, e⟩ := Kd.R_head hR
    exact ⟨b, by simpa using e⟩
  subst hSv
  have h0 : Hid (TuRel x.length g B SB w2.heap.size w w3 (.slice (some ⟨w2.heap.size, 0, none⟩) 0 x.length) []) := by
    have hlt := (Array.getElem?_eq_some_iff.1 hB).1
    have hb1 := below_then hS.out.below (by simp) HB.out
    have h12 := HB2.out.size
    have hbB := HB2.out.block B hlt
    have hSBl : SB < w2.heap.size := by
      obtain ⟨ad, had, hc⟩ := Kd.at_int hCs (0 : Int) (by omega) (by rw [saysL_len]; omega)
      cases had
      exact World.block_lt_of_cell? _ _ hc
    refine ⟨?_, ?_, ?_, ?_, ?_⟩
    · exact (hg.block _ (by omega) (by simp)).trans (hbB.trans hB)
    · intro k hk
      obtain ⟨ad, had, hc⟩ := Kd.at_int hCs (k : Int) (by omega) (by rw [saysL_len]; omega)
      cases had
      rw [saysL_rd g k hk] at hc
      have hc2 : w2.cell? ⟨SB, k, none⟩ = some (.int .i32 (sayv g k)) := by
        have e : (⟨SB, 0, none⟩ : Addr).add ((k : Int).toNat) = ⟨SB, k, none⟩ := by
          rw [Int.toNat_natCast]; unfold Addr.add; split <;> simp_all
        rw [← e]; exact hc
      exact ((below_of_grown hg).cell (World.block_lt_of_cell? _ _ hc2)).trans hc2
    · exact Kd.R_reok rfl hO (fun k hk => by simp [Value.ownBlock] at hk; omega)
    · exact ⟨by omega, hSBl, by have := hb1.size; omega, hg.size⟩
    · exact below_then (below_then hb1 hb1.size HB2.out) (below_then hb1 hb1.size HB2.out).size (below_of_grown hg)
  clear hmk hO hg hcs hCs hR hb2 HB2 hB hBl hb HB hS
  go_loopg [11, 40] 8 (fun gk s11 s40 wr => ∃ b : Nat, b ≤ 8 ∧ gk = 8 - b ∧ s40 = .int .i64 b ∧ Hid (TuRel x.length g B SB w2.heap.size w wr s11 ((turnL x g sg).take (edg x.length b).toNat)))
  case atStart => exact ⟨0, by omega, rfl, rfl, by rw [(edg_ends _ HN.out).1]; exact h0⟩
  case round =>
    obtain ⟨b, hb, rfl, rfl, hM⟩ := hrel
    by_cases hlt : b < 8
    · have c1 : (b : Int) < 8 := by omega
      have c0 : (0 : Int) ≤ (b : Int) := by omega
      have k0 := hM.out.says b hlt
      go_wp2_with fail
      refine (logs_Exp.calls (wrap32 (sg * sayv g b)) _ _ wr rfl).mono ?_
      rintro e w4 ⟨rfl, hd⟩
      obtain ⟨nd, rfl⟩ := hd.out
      replace hM := Lib.hid (hM.out.drew nd)
      generalize wr.drewN nd = w4 at hM
      clear k0 hd
      have hed := Lib.hid (edg_bd _ HN.out b hlt)
      have hel := Lib.hid (edg_lt _ HN.out b hlt)
      have k1 : w4.cell? ⟨B, b, none⟩ = some (.int .i64 (edg x.length b)) := hM.out.edge b (by omega)
      have k2 : w4.cell? ⟨B, b + 1, none⟩ = some (.int .i64 (edg x.length (b + 1))) := hM.out.edge (b + 1) (by omega)
      go_wp2_with fail
      obtain ⟨e0, e1, e2⟩ := hed.out
      have hcc : edg x.length (b + 1) ≤ (c : Int) := by omega
      have e3 := hel.out
      generalize hlo : edg x.length b = lo at k1 e0 e1 e3
      generalize hhi : edg x.length (b + 1) = hi at k2 e1 e2 hcc e3
      have Hlo := Lib.hid hlo
      have Hhi := Lib.hid hhi
      clear hlo hhi
      obtain ⟨ln, rfl⟩ := Int.eq_ofNat_of_zero_le e0
      obtain ⟨hn, rfl⟩ := Int.eq_ofNat_of_zero_le (Int.le_trans e0 e1)
      have hne : ¬ c = ln := by omega
      go_quiet (fail)
      replace hM := Lib.hid (hM.out.drew nq)
      generalize w4.drewN nq = w5 at hM
      clear k1 k2
      go_wp2_with fail
      generalize hy : (expf (wrap32 (sg * sayv g b))).1 = y
      have Hy := Lib.hid hy
      clear hy
      go_loopg [11, 64] (hn - ln) (fun gk s11 s64 wr2 => ∃ j : Nat, j ≤ hn - ln ∧ gk = hn - ln - j ∧ s64 = .int .i64 j ∧ Hid (TuRel x.length g B SB w2.heap.size w wr2 s11 ((turnL x g sg).take (ln + j))))
      case atStart => exact ⟨0, by omega, rfl, rfl, by have := hM; rw [Hlo.out, Int.toNat_natCast] at this; exact this⟩
      case round =>
        obtain ⟨j, hj, rfl, rfl, hM2⟩ := hrel
        by_cases hjl : j < hn - ln
        · have c2 : (j : Int) < ((hn - ln : Nat) : Int) := by omega
          have hsn := Lib.hid (turnL_snoc x g sg (ln + j) (by omega))
          have hxv : Hid (∃ xi : Int, rd x ((ln + j : Nat) : Int) = xi ∧ I32 xi ∧ wr.cell? ((ad.add ln).add j) = some (.int .i32 xi)) := by
            obtain ⟨ad', e, hc⟩ := Kd.at_int HC.out ((ln + j : Nat) : Int) (by omega) (by omega)
            cases e
            refine ⟨_, rfl, HX.out _ (rd_mem x ((ln + j : Nat) : Int) (by omega) (by omega)), ?_⟩
            rw [Addr.add_add]
            rw [Int.toNat_natCast] at hc
            exact (hM2.out.below.cell (World.block_lt_of_cell? _ _ hc)).trans hc
          obtain ⟨xi, hxi, hxb, hxc⟩ := hxv.out
          have hyv : Hid (tval x g sg (ln + j) = clamp (rnd (wrap64 (xi * wrap64 y)) 16) (-2147483648) 2147483647) := by
            show _ = _
            have hb1 : bnd x.length (ln + j) = b := bnd_at x.length HN.out b hlt (ln + j) (by rw [Hlo.out]; omega) (by rw [Hhi.out]; omega)
            unfold tval
            rw [hb1, hxi, Hy.out]
          have Hxi := Lib.hid hxi
          clear hxi hxv
          obtain ⟨hx0, hx1⟩ := hxb
          have hsz := hM2.out.ne.2.2
          go_wp2_with (first | (go_at_call 46; refine (fixround_any _ _ _ (i64_bd _)).mono ?_; rintro e w6 ⟨rfl, nk, rfl⟩) | (go_at_call 44; refine (sat32_any _ _).mono ?_; rintro e w6 ⟨rfl, rfl⟩) | ((with_reducible refine gate_builtin (b := .append) (xs := #[.tmp 68, .tmp 76]) rfl ?_); at_builtin; refine Kd.R_append (Kd.int .i32) (w0 := w) w.heap.size rfl (.tmp 68) (.tmp 76) 25 21 (.int .i32 0) 4 rfl Try.underlying25 clone32_info rfl (by decide) (by decide) u11 ((turnL x g sg).take (ln + j)) (clamp (rnd (wrap64 (xi * wrap64 y)) 16) (-2147483648) 2147483647) [.int .i32 (clamp (rnd (wrap64 (xi * wrap64 y)) 16) (-2147483648) 2147483647)] (fun k => w2.heap.size ≤ k) (fun _ => False) rfl rfl rfl (fun _ hk => hk.elim) (fun _ hk => by have := hsz; simp at hk; omega) (Kd.R_drewN hM2.out.row nk) (pw_below_drewN hM2.out.below nk) (by simp; omega) (by simp; omega) ?_; intro v1 w7 hR hB hg hat))
          have hM3 := Lib.hid ((hM2.out.drew nk).push hg hR hB)
          rw [← hyv.out, hsn.out] at hM3
          clear hg hR hB hat
          go_roundg (hn - ln - (j + 1))
          case measure => omega
          case rel => exact ⟨j + 1, by omega, rfl, by push_cast; rfl, hM3.out⟩
        · obtain rfl : j = hn - ln := by omega
          have hM3 := hM2.out
          rw [show ln + (hn - ln) = hn by omega] at hM3
          have hM4 := Lib.hid hM3
          clear hM3
          go_wp2
          go_roundg (8 - (b + 1))
          case measure => omega
          case rel => exact ⟨b + 1, by omega, rfl, by push_cast; rfl, by rw [Hhi.out, Int.toNat_natCast]; exact hM4.out⟩
    · obtain rfl : b = 8 := by omega
      go_wp2
      go_ret2
      refine ⟨_, rfl, ?_, hM.out.below⟩
      have hrow := hM.out.row
      rw [(edg_ends _ HN.out).2, Int.toNat_natCast, List.take_of_length_le (by simp [turnL])] at hrow
      exact Kd.R_mono hrow (fun _ _ => trivial)
end Go.Proofs.YtojlgjdebokelabH

namespace Go.Proofs.YtojlgjdebokelabH
open Go.RowKit Go.Proofs.YtojlgjdebokelabW.PrintWords Go.Proofs.YtojlgjdebokelabW.PrintMore Go.Proofs.YtojlgjdebokelabW
attribute [local go_sem ↓] Go.wp_at_zero Go.wp_at_succ
open Go.Proofs.Ytojlgjdebokelab.PLib7
/-- Lines by a shape, and the error. -/
def eunv (x : List Int) (g : Nat → Int) (sg : Int) : List Int × Int := if Nok (x.length : Int) ∧ Sok g then (turnL x g sg, 0) else ([], 1)
theorem turned_all (A : Option Addr) (c : Nat) (x : List Int) (g : Nat → Int) (sg : Int) (w : World) (hcap : x.length ≤ c) (hC : Kd.C (Kd.int .i32) w A x.length x) (hx : ∀ v ∈ x, I32 v) (hsg : sg = 1 ∨ sg = -1) :
    Calls Try.prog 69 #[.slice A x.length c, sval g, .int .i32 sg] w fun e w' => ∃ v, e = .returned (.tuple #[v, .int .i64 (eunv x g sg).2]) ∧ Kd.R (Kd.int .i32) 21 w' w.heap.size (fun _ => True) v (eunv x g sg).1 ∧ Below w.heap.size w w' := by
  by_cases hn : Nok (x.length : Int)
  · by_cases hs : Sok g
    · have e : eunv x g sg = (turnL x g sg, 0) := if_pos ⟨hn, hs⟩
      rw [e]
      exact turned_any A c x g sg w hcap hC hx hn hs hsg
    · have e : eunv x g sg = ([], 1) := if_neg (fun h => hs h.2)
      rw [e]
      refine (turned_bads A x.length c g sg w hn hs).mono ?_
      rintro e w' ⟨rfl, hb⟩
      exact ⟨_, rfl, Kd.R_nil _ _ _ _ _, hb⟩
  · have e : eunv x g sg = ([], 1) := if_neg (fun h => hn h.1)
    rw [e]
    refine (turned_badx A x.length c g sg w hn).mono ?_
    rintro e w' ⟨rfl, hb⟩
    exact ⟨_, rfl, Kd.R_nil _ _ _ _ _, hb⟩
set_option maxRecDepth 100000 in
theorem even_any (A : Option Addr) (c : Nat) (x : List Int) (g : Nat → Int) (w : World) (hcap : x.length ≤ c) (hC : Kd.C (Kd.int .i32) w A x.length x) (hx : ∀ v ∈ x, I32 v) :
    Calls Try.prog 25 #[.slice A x.length c, sval g] w fun e w' => ∃ v, e = .returned (.tuple #[v, .int .i64 (eunv x g (-1)).2]) ∧ Kd.R (Kd.int .i32) 21 w' w.heap.size (fun _ => True) v (eunv x g (-1)).1 ∧ Below w.heap.size w w' := by
  have hS := Lib.hid (Shp.start w 61 g)
  have C := Lib.hid (turned_all A c x g (-1) (w.alloc (.cells (row9 g) 61)) hcap (Kd.C_below hC hS.out.below) hx (.inr rfl))
  clear hcap hC hx
  go_enter Try.func25, Try.ntmps25
  go_wp2_with fail
  refine C.out.mono ?_
  rintro e w1 ⟨v, rfl, hR, hb⟩
  have HB := Lib.hid hb
  have HR := Lib.hid hR
  clear hb hR C
  go_wp2
  go_ret2
  exact ⟨v, rfl, Kd.R_lower HR.out (by simp), below_then hS.out.below (by simp) HB.out⟩
set_option maxRecDepth 100000 in
theorem uneven_any (A : Option Addr) (c : Nat) (x : List Int) (g : Nat → Int) (w : World) (hcap : x.length ≤ c) (hC : Kd.C (Kd.int .i32) w A x.length x) (hx : ∀ v ∈ x, I32 v) :
    Calls Try.prog 26 #[.slice A x.length c, sval g] w fun e w' => ∃ v, e = .returned (.tuple #[v, .int .i64 (eunv x g 1).2]) ∧ Kd.R (Kd.int .i32) 21 w' w.heap.size (fun _ => True) v (eunv x g 1).1 ∧ Below w.heap.size w w' := by
  have hS := Lib.hid (Shp.start w 61 g)
  have C := Lib.hid (turned_all A c x g 1 (w.alloc (.cells (row9 g) 61)) hcap (Kd.C_below hC hS.out.below) hx (.inl rfl))
  clear hcap hC hx
  go_enter Try.func26, Try.ntmps26
  go_wp2_with fail
  refine C.out.mono ?_
  rintro e w1 ⟨v, rfl, hR, hb⟩
  have HB := Lib.hid hb
  have HR := Lib.hid hR
  clear hb hR C
  go_wp2
  go_ret2
  exact ⟨v, rfl, Kd.R_lower HR.out (by simp), below_then hS.out.below (by simp) HB.out⟩
end Go.Proofs.YtojlgjdebokelabH

namespace Go.Proofs.YtojlgjdebokelabH
open Go.RowKit Go.Proofs.YtojlgjdebokelabW.PrintWords Go.Proofs.YtojlgjdebokelabW.PrintMore Go.Proofs.YtojlgjdebokelabW
attribute [local go_sem ↓] Go.wp_at_zero Go.wp_at_succ
open Go.Proofs.Ytojlgjdebokelab.PLib7
structure RtRel (g : Nat → Int) (w wr : World) (v : Value) (ys : List Int) : Prop where
  box : wr.heap[w.heap.size]? = some (.cells (row9 g) 59 (0, 0))
  row : Kd.R (Kd.int .i32) 21 wr w.heap.size (fun _ => True) v ys
  below : Below w.heap.size w wr
theorem RtRel.drew {g : Nat → Int} {w wr : World} {v : Value} {ys : List Int} (h : RtRel g w wr v ys) (k : Nat) : RtRel g w (wr.drewN k) v ys :=
  ⟨blk_drewN h.box k, Kd.R_drewN h.row k, pw_below_drewN h.below k⟩
theorem RtRel.under {g : Nat → Int} {w wr w1 : World} {v : Value} {ys : List Int} (h : RtRel g w wr v ys) (hb : Below wr.heap.size wr w1) : RtRel g w w1 v ys :=
  ⟨blk_below h.box hb, Kd.R_below h.row hb, below_then h.below h.below.size hb⟩
theorem RtRel.push {g : Nat → Int} {w wr w1 : World} {v v1 : Value} {ys zs : List Int} (h : RtRel g w wr v ys) (hg : wr.grownBy w1 v.ownBlock) (hR : Kd.R (Kd.int .i32) 21 w1 w.heap.size (fun _ => True) v1 zs) (hB : Below w.heap.size w w1) : RtRel g w w1 v1 zs :=
  ⟨blk_grown h.box hg (Kd.R_ne h.row h.box (by decide)), hR, hB⟩
theorem RtRel.cells {g : Nat → Int} {w wr : World} {v : Value} {ys : List Int} (h : RtRel g w wr v ys) :
    wr.cell? ⟨w.heap.size, 0, none⟩ = some (.int .i64 (g 0)) ∧ wr.cell? ⟨w.heap.size, 1, none⟩ = some (.int .i64 (g 1)) ∧ wr.cell? ⟨w.heap.size, 2, none⟩ = some (.int .i64 (g 2)) ∧ wr.cell? ⟨w.heap.size, 3, none⟩ = some (.int .i64 (g 3)) ∧ wr.cell? ⟨w.heap.size, 4, none⟩ = some (.int .i64 (g 4)) ∧ wr.cell? ⟨w.heap.size, 5, none⟩ = some (.int .i64 (g 5)) ∧ wr.cell? ⟨w.heap.size, 6, none⟩ = some (.int .i64 (g 6)) ∧ wr.cell? ⟨w.heap.size, 7, none⟩ = some (.int .i64 (g 7)) ∧ wr.cell? ⟨w.heap.size, 8, none⟩ = some (.int .i64 (g 8)) :=
  ⟨blk_cell h.box 0, blk_cell h.box 1, blk_cell h.box 2, blk_cell h.box 3, blk_cell h.box 4, blk_cell h.box 5, blk_cell h.box 6, blk_cell h.box 7, blk_cell h.box 8⟩
def sgn (ev : Bool) : Int := if ev then -1 else 1
theorem clamp_i32 (n : Int) : wrap32 (clamp n (-2147483648) 2147483647) = clamp n (-2147483648) 2147483647 := by
  have := clamp_in n (-2147483648) 2147483647 (by decide)
  unfold wrap32; omega
theorem sayv_bd (g : Nat → Int) (b : Nat) : -2147483648 ≤ sayv g b ∧ sayv g b ≤ 2147483647 := by
  unfold sayv
  rw [IntKind.wrap_i32]; omega
set_option maxRecDepth 100000 in
set_option maxHeartbeats 4000000 in
theorem rturn_any (A : Option Addr) (c : Nat) (x : List Int) (g : Nat → Int) (ev : Bool) (w : World) (hcap : x.length ≤ c) (hC : Kd.C (Kd.int .i32) w A x.length x) (hx : ∀ v ∈ x, I32 v) (hn : Nok (x.length : Int)) (hs : Sok g) :
    Calls Try.prog 31 #[.slice A x.length c, sval g, .bool ev] w fun e w' => ∃ v, e = .returned v ∧ Kd.R (Kd.int .i32) 21 w' w.heap.size (fun _ => True) v (turnL x g (sgn ev)) ∧ Below w.heap.size w w' := by
  have h0 : Hid (RtRel g w (w.alloc (.cells (row9 g) 59)) (.slice none 0 0) []) := ⟨heap_alloc_new w _, Kd.R_nil _ _ _ _ _, (Below.refl _ _).alloc (Nat.le_refl _) _⟩
  have HN := Lib.hid hn
  have HX := Lib.hid hx
  have HC := Lib.hid hC
  have HS := Lib.hid hs
  have hl : x.length ≤ 120 := by rcases hn with h | h | h | h <;> omega
  clear hn hx hC hs
  have hsg : Hid (sgn ev = sgn ev) := rfl
  revert hsg
  generalize hg : sgn ev = sg
  have Hsg := Lib.hid hg
  clear hg
  intro hsg
  clear hsg
  cases ev
  all_goals
    go_enter Try.func31, Try.ntmps31
    go_wp2_with fail
    go_loopg [7, 8] x.length (fun gk s7 s8 wr => ∃ i : Nat, i ≤ x.length ∧ gk = x.length - i ∧ s8 = .int .i64 i ∧ Hid (RtRel g w wr s7 ((turnL x g sg).take i)))
    case atStart => exact ⟨0, by omega, rfl, rfl, h0⟩
    case round =>
      obtain ⟨i, hi, rfl, rfl, hM⟩ := hrel
      by_cases hlt : i < x.length
      · have c1 : (i : Int) < (x.length : Int) := by omega
        have c0 : (0 : Int) ≤ (i : Int) := by omega
        have hb8 := Lib.hid (bnd_lt x.length i)
        have hband := Lib.hid (rband_f x.length HN.out i c1)
        obtain ⟨d0, d1, d2, d3, d4, d5, d6, d7, d8⟩ := hM.out.cells
        go_wp2_with fail
        go_region_with (first | (go_at_call 72; refine (psalteryref15_Band.calls 12 _ _ _ _ hband.out).mono ?_; rintro e w1 ⟨rfl, hb⟩; (have hM1 := Lib.hid ((hM.out.drew 1).under hb)); clear hb; (obtain ⟨f0, f1, f2, f3, f4, f5, f6, f7, f8⟩ := hM1.out.cells)) | (go_at_call 29; refine (rsays_any g (bnd x.length i) _ hb8.out HS.out.1.1 HS.out.1.2).mono ?_; rintro e w2 ⟨rfl, hb⟩; (have hM2 := Lib.hid (hM1.out.under hb)); clear hb))
        all_goals
          have hsn := Lib.hid (turnL_snoc x g sg i hlt)
          obtain ⟨ad, e, hxc⟩ := Kd.at_int HC.out (i : Int) c0 c1
          subst e
          rw [Int.toNat_natCast] at hxc
          have hxb := HX.out _ (rd_mem x (i : Int) c0 c1)
          have hyv : Hid (tval x g sg i = clamp (rnd (wrap64 (rd x (i : Int) * wrap64 (expf (wrap32 (sg * sayv g (bnd x.length i)))).1)) 16) (-2147483648) 2147483647) := rfl
          generalize rd x (i : Int) = xi at hxc hxb hyv
          obtain ⟨hx0, hx1⟩ := hxb
          have hqv : Hid (wrap32 (sg * sayv g (bnd x.length i)) = wrap32 (sg * sayv g (bnd x.length i))) := rfl
          have hqb := sayv_bd g (bnd x.length i)
          generalize hq : sayv g (bnd x.length i) = q at hyv hqb
          have Hq := Lib.hid hq
          clear hq hqv
          obtain ⟨hq0, hq1⟩ := hqb
          generalize hq2 : wrap32 (sg * q) = q2 at hyv
          have Hq2 := Lib.hid hq2
          clear hq2
          clear d0 d1 d2 d3 d4 d5 d6 d7 d8 f0 f1 f2 f3 f4 f5 f6 f7 f8
          go_wp2_with fail
          first
            | (have e3 : wrap32 (-q) = q2 := (by rw [← Hq2.out, ← Hsg.out]; show _ = wrap32 (-1 * q); congr 1; omega)
               rw [e3])
            | (obtain rfl : q2 = q := (by rw [← Hq2.out, ← Hsg.out]; show wrap32 (1 * q) = q; unfold wrap32; omega))
          try clear e3
          refine (refexp_any _ _).mono ?_
          rintro e w3 ⟨rfl, hb⟩
          have hM3 := Lib.hid (hM2.out.under hb)
          clear hb
          have hxc3 : w3.cell? (ad.add i) = some (.int .i32 xi) := (hM3.out.below.cell (World.block_lt_of_cell? _ _ hxc)).trans hxc
          have hsz := hM3.out.below.size
          generalize (expf q2).1 = y at hyv ⊢
          go_wp2_with (first | (go_at_call 52; refine (rnd_any _ _ _ (i64_bd _)).mono ?_; rintro e w6 ⟨rfl, rfl⟩) | (go_at_call 53; refine (refsat32_any _ _).mono ?_; rintro e w6 ⟨rfl, rfl⟩) | ((with_reducible refine gate_builtin (b := .append) (xs := #[.tmp 32, .tmp 44]) rfl ?_); at_builtin; refine Kd.R_append (Kd.int .i32) (w0 := w) w.heap.size rfl (.tmp 32) (.tmp 44) 25 21 (.int .i32 0) 4 rfl Try.underlying25 clone32_info rfl (by decide) (by decide) u7 ((turnL x g sg).take i) (wrap32 (clamp (rnd (wrap64 (xi * wrap64 y)) 16) (-2147483648) 2147483647)) [.int .i32 (wrap32 (clamp (rnd (wrap64 (xi * wrap64 y)) 16) (-2147483648) 2147483647))] (fun _ => True) (fun _ => False) rfl rfl rfl (fun _ hk => hk.elim) (fun _ _ => trivial) hM3.out.row hM3.out.below hsz (by simp; omega) ?_; intro v1 w7 hR hB hg hat))
          have hM4 := Lib.hid (hM3.out.push hg hR hB)
          rw [clamp_i32, ← hyv.out, hsn.out] at hM4
          clear hg hR hB hat
          go_roundg (x.length - (i + 1))
          case measure => omega
          case rel => exact ⟨i + 1, by omega, rfl, by push_cast; rfl, hM4.out⟩
      · obtain rfl : i = x.length := by omega
        go_wp2
        go_ret
        have hrow := hM.out.row
        rw [List.take_of_length_le (by rw [turnL_len]; exact Nat.le_refl _)] at hrow
        exact ⟨_, rfl, hrow, hM.out.below⟩
end Go.Proofs.YtojlgjdebokelabH

namespace Go.Proofs.YtojlgjdebokelabH
open Go.RowKit Go.Proofs.YtojlgjdebokelabW.PrintWords Go.Proofs.YtojlgjdebokelabW.PrintMore Go.Proofs.YtojlgjdebokelabW
attribute [local go_sem ↓] Go.wp_at_zero Go.wp_at_succ
open Go.Proofs.Ytojlgjdebokelab.PLib7
/-- The energy of lines. -/
def enF (l : List Int) : Int := (band_energy.f (l.length + 1) l).getD 0
theorem en_l0 (l : List Int) (hl : l.length ≤ 1000000) (d : Nat) : ∀ (k : Nat) (s i : Int), 0 ≤ i → (l.length : Int) - i = d → d < k → ∃ r, band_energy.l0 k s l (l.length : Int) i = some r := by
  induction d with
  | zero =>
    intro k s i h0 hd hk
    obtain ⟨k, rfl⟩ : ∃ m, k = m + 1 := ⟨k - 1, by omega⟩
    exact ⟨s, by simp only [band_energy.l0]; rw [if_neg (by omega)]⟩
  | succ d ih =>
    intro k s i h0 hd hk
    obtain ⟨k, rfl⟩ : ∃ m, k = m + 1 := ⟨k - 1, by omega⟩
    have hw : wrap64 (i + 1) = i + 1 := by unfold wrap64; omega
    obtain ⟨r, hr⟩ := ih k _ (i + 1) (by omega) (by omega) (by omega)
    exact ⟨r, by simp only [band_energy.l0]; rw [if_pos (by omega), if_pos h0, if_pos (by omega), hw]; exact hr⟩
theorem enF_f (l : List Int) (hl : l.length ≤ 1000000) : band_energy.f (l.length + 1) l = some (enF l) := by
  obtain ⟨r, hr⟩ := en_l0 l hl l.length (l.length + 1) 0 0 (by omega) (by omega) (by omega)
  have : band_energy.f (l.length + 1) l = some r := hr
  unfold enF
  rw [this]; rfl
theorem energy_any (A : Option Addr) (c : Nat) (l : List Int) (w : World) (hr : Kd.C (Kd.int .i32) w A l.length l) (hc : l.length ≤ c) (hl : l.length ≤ 1000000) :
    Calls Try.prog 115 #[.slice A l.length c] w fun e w' => e = .returned (.int .u64 (enF l)) ∧ Below w.heap.size w w' :=
  band_energy.calls _ A c l _ w hr hc (enF_f l hl)
/-- The log of a number. -/
def logV (n : Int) : Int × Int := (logs_Log.f 9 n).getD (0, 0)
theorem log_l0 (d : Nat) : ∀ (k : Nat) (a b i : Int), i + d = 8 → 0 ≤ i → d < k → ∃ r, logs_Log.l0 k a b i = some r := by
  induction d with
  | zero =>
    intro k a b i h0 hd hk
    obtain ⟨k, rfl⟩ : ∃ m, k = m + 1 := ⟨k - 1, by omega⟩
    exact ⟨_, by simp only [logs_Log.l0]; rw [if_neg (by omega)]⟩
  | succ d ih =>
    intro k a b i h0 hd hk
    obtain ⟨k, rfl⟩ : ∃ m, k = m + 1 := ⟨k - 1, by omega⟩
    have hw : wrap64 (i + 1) = i + 1 := by unfold wrap64; omega
    have hz : (0 : Int) ≤ IntKind.u64.wrap (a * a) / 1073741824 / 2147483648 := by
      have : 0 ≤ IntKind.u64.wrap (a * a) := (by rw [IntKind.wrap_u64]; omega)
      omega
    obtain ⟨r, hr⟩ := ih k _ _ (i + 1) (by omega) (by omega) (by omega)
    exact ⟨r, by simp only [logs_Log.l0]; rw [if_pos (by omega), if_pos hz, hw]; exact hr⟩
theorem logV_f (n : Int) (h0 : 0 ≤ n) (h1 : n ≤ 18446744073709551615) : logs_Log.f 9 n = some (logV n) := by
  have : ∃ r, logs_Log.f 9 n = some r := by
    unfold logs_Log.f logs_Bits.f bits_Len64.f
    rw [if_pos h0, if_pos h1]
    simp only [Option.bind_some]
    split
    · exact ⟨_, rfl⟩
    · exact log_l0 8 9 _ _ 0 (by omega) (by omega) (by omega)
  obtain ⟨r, hr⟩ := this
  unfold logV
  rw [hr]; rfl
theorem log_any (n : Int) (w : World) (h0 : 0 ≤ n) (h1 : n ≤ 18446744073709551615) :
    Calls Try.prog 111 #[.int .u64 n] w fun e w' => e = .returned (.tuple #[.int .i32 (logV n).1, .int .i64 (logV n).2]) ∧ Below w.heap.size w w' :=
  logs_Log.calls 9 n _ _ w (logV_f n h0 h1)
/-- The energies of the bands. -/
def enB (x : List Int) (b : Nat) : Int := enF ((x.take (edg x.length (b + 1)).toNat).drop (edg x.length b).toNat)
def enL (x : List Int) : List Int := (List.range 8).map (enB x)
theorem enL_len (x : List Int) : (enL x).length = 8 := by simp [enL]
theorem enL_rd (x : List Int) (k : Nat) (h : k < 8) : rd (enL x) (k : Int) = enB x k := by
  unfold enL rd
  rw [Int.toNat_natCast, List.getD_eq_getElem?_getD]
  simp [h]
theorem R_made (W : World) (base : Nat) (E : TypeId) (k : IntKind) (hb : base ≤ W.heap.size) (N : Nat) (hN : N ≤ 9223372036854775807) : Kd.R (Kd.int k) E (W.alloc (.cells (madeCells #[.int k 0] N) E)) base (fun j => j = W.heap.size) (.slice (some ⟨W.heap.size, 0, none⟩) N N) (List.replicate N 0) := by
  have h := own_made W base E k N hb hN
  refine Kd.R_of_own ?_ (fun j hj => by simpa [Value.ownBlock] using hj.symm)
  have : (List.replicate N (0 : Int)).length = N := by simp
  rw [this]
  exact h
structure EgRel (n : Int) (EB OB : Nat) (w wr : World) (ys : List Int) : Prop where
  edges : wr.heap[EB]? = some (.cells (row9 (edg n)) 170 (0, 0))
  row : Kd.R (Kd.int .u64) 76 wr w.heap.size (fun k => k = OB) (.slice (some ⟨OB, 0, none⟩) 8 8) ys
  ne : EB < OB ∧ w.heap.size ≤ EB
  below : Below w.heap.size w wr
theorem EgRel.edge {n : Int} {EB OB : Nat} {w wr : World} {ys : List Int} (h : EgRel n EB OB w wr ys) (j : Nat) (hj : j < 9) : wr.cell? ⟨EB, j, none⟩ = some (.int .i64 (edg n j)) := by
  have := cell_of_row wr EB j _ _ (0, 0) h.edges
  rw [this, row9_at _ j hj]
theorem EgRel.drew {n : Int} {EB OB : Nat} {w wr : World} {ys : List Int} (h : EgRel n EB OB w wr ys) (k : Nat) : EgRel n EB OB w (wr.drewN k) ys :=
  ⟨blk_drewN h.edges k, Kd.R_drewN h.row k, h.ne, pw_below_drewN h.below k⟩
theorem EgRel.under {n : Int} {EB OB : Nat} {w wr w1 : World} {ys : List Int} (h : EgRel n EB OB w wr ys) (hb : Below wr.heap.size wr w1) : EgRel n EB OB w w1 ys :=
  ⟨blk_below h.edges hb, Kd.R_below h.row hb, h.ne, below_then h.below h.below.size hb⟩
theorem EgRel.put {n : Int} {EB OB : Nat} {w wr : World} {ys : List Int} (h : EgRel n EB OB w wr ys) (j : Nat) (x : Int) : EgRel n EB OB w (wr.setCell ⟨OB, j, none⟩ (.int .u64 x)) (ys.set j x) := by
  have hp := Kd.R_putn h.row (j : Int) x
  rw [Int.toNat_natCast] at hp
  have hn := h.ne
  exact ⟨blk_far h.edges (by show EB ≠ OB; omega) _, hp, h.ne, h.below.setCell (by show w.heap.size ≤ OB; omega) _⟩
theorem EgRel.cell {n : Int} {EB OB : Nat} {w wr : World} {ys : List Int} (h : EgRel n EB OB w wr ys) (j : Nat) (hj : j < 8) : wr.cell? ⟨OB, j, none⟩ = some (.int .u64 (rd ys (j : Int))) ∧ wr.frozen? ⟨OB, j, none⟩ = false := by
  have hR := Kd.R_celln (0 : Int) h.row (j : Int) (by omega) (by omega)
  rw [Int.toNat_natCast] at hR
  exact hR
theorem clone64u_info : (Try.prog.info? 76).map (fun i => (i.zero, i.size, i.bytes)) = some (some (.int .u64 0), 1, 8) := by kernel_rfl
set_option maxRecDepth 100000 in
theorem energies_no (A : Option Addr) (n c : Nat) (w : World) (hn : ¬ Nok (n : Int)) :
    Calls Try.prog 110 #[.slice A n c] w fun e w' => e = .returned (.tuple #[.slice none 0 0, .int .i64 1]) ∧ Below w.heap.size w w' := by
  have C := Lib.hid (edges_no (n : Int) w hn)
  clear hn
  go_enter Try.func110, Try.ntmps110
  go_wp2_with (refine C.out.mono ?_; rintro e w1 ⟨rfl, hb⟩; (have HB := Lib.hid hb); clear hb C)
  go_ret2
  exact ⟨rfl, HB.out.alloc HB.out.size _⟩
set_option maxRecDepth 100000 in
set_option maxHeartbeats 4000000 in
theorem energies_ok (A : Option Addr) (c : Nat) (x : List Int) (w : World) (hcap : x.length ≤ c) (hC : Kd.C (Kd.int .i32) w A x.length x) (hn : Nok (x.length : Int)) :
    Calls Try.prog 110 #[.slice A x.length c] w fun e w' => ∃ OB, e = .returned (.tuple #[.slice (some ⟨OB, 0, none⟩) 8 8, .int .i64 0]) ∧ Kd.R (Kd.int .u64) 76 w' w.heap.size (fun _ => True) (.slice (some ⟨OB, 0, none⟩) 8 8) (enL x) ∧ Below w.heap.size w w' := by
  have C := Lib.hid (edges_ok (x.length : Int) w hn)
  have hmk : ∀ W : World, (Instr.makeSlice 150 (.int .i64 8) (.int .i64 8)).run Try.prog W = .ok (.slice (some ⟨W.heap.size, 0, none⟩) 8 8) (W.alloc (.cells (madeCells #[.int .u64 0] 8) 76)) := fun W => print_make 150 76 .u64 8 Try.underlying150 clone64u_info (by decide) 8 (by omega) W
  have HN := Lib.hid hn
  have HC := Lib.hid hC
  have hl : x.length ≤ 120 := by rcases hn with h | h | h | h <;> omega
  obtain ⟨ad, rfl⟩ : ∃ ad, A = some ad := by
    obtain ⟨ad, h, -⟩ := Kd.at_int hC (0 : Int) (by omega) (by rcases hn with h | h | h | h <;> omega)
    exact ⟨ad, h⟩
  clear hn hC
  go_enter Try.func110, Try.ntmps110
  go_wp2_with (refine C.out.mono ?_; rintro e w1 ⟨rfl, hb⟩; (have HB := Lib.hid hb); clear hb C)
  have h0 : Hid (EgRel x.length w1.heap.size (w1.heap.size + 1) w ((w1.alloc (.cells (row9 (edg x.length)) 170)).alloc (.cells (madeCells #[.int .u64 0] 8) 76)) (fv (enL x) 0)) := by
    have hz := HB.out.size
    refine ⟨?_, ?_, ⟨by omega, hz⟩, (HB.out.alloc hz _).alloc (by simp; omega) _⟩
    · exact blk_below (heap_alloc_new w1 _) ((Below.refl _ _).alloc (Nat.le_refl _) _)
    · rw [fv_zero, enL_len]
      have := R_made (w1.alloc (.cells (row9 (edg x.length)) 170)) w.heap.size 76 .u64 (by simp; omega) 8 (by omega)
      simpa using this
  go_loopg [19] 8 (fun gk s19 wr => ∃ b : Nat, b ≤ 8 ∧ gk = 8 - b ∧ s19 = .int .i64 b ∧ Hid (EgRel x.length w1.heap.size (w1.heap.size + 1) w wr (fv (enL x) b)))
  case atStart => exact ⟨0, by omega, rfl, rfl, h0⟩
  case round =>
    obtain ⟨b, hb, rfl, rfl, hM⟩ := hrel
    by_cases hlt : b < 8
    · have c1 : (b : Int) < 8 := by omega
      have c0 : (0 : Int) ≤ (b : Int) := by omega
      have k1 : wr.cell? ⟨w1.heap.size, b, none⟩ = some (.int .i64 (edg x.length b)) := hM.out.edge b (by omega)
      have k2 : wr.cell? ⟨w1.heap.size, b + 1, none⟩ = some (.int .i64 (edg x.length (b + 1))) := hM.out.edge (b + 1) (by omega)
      obtain ⟨e0, e1, e2⟩ := edg_bd _ HN.out b hlt
      have e3 := edg_lt _ HN.out b hlt
      have hcc : edg x.length (b + 1) ≤ (c : Int) := by omega
      generalize hlo : edg x.length b = lo at k1 e0 e1 e3
      generalize hhi : edg x.length (b + 1) = hi at k2 e1 e2 hcc e3
      have Hlo := Lib.hid hlo
      have Hhi := Lib.hid hhi
      clear hlo hhi
      obtain ⟨ln, rfl⟩ := Int.eq_ofNat_of_zero_le e0
      obtain ⟨hn, rfl⟩ := Int.eq_ofNat_of_zero_le (Int.le_trans e0 e1)
      have hne : ¬ c = ln := by omega
      have hsub : Hid (∀ W, Below w.heap.size w W → Calls Try.prog 115 #[.slice (some (ad.add ln)) (hn - ln) (c - ln)] W fun e w' => e = .returned (.int .u64 (enB x b)) ∧ Below W.heap.size W w') := by
        intro W hb
        have hC := Kd.C_mid (lo := ln) (hi := hn) (Kd.C_below HC.out hb) (by omega) (by omega) hcap
        rw [if_neg hne] at hC
        have hlen : ((x.take hn).drop ln).length = hn - ln := by simp; omega
        have hv : enF ((x.take hn).drop ln) = enB x b := by unfold enB; rw [Hlo.out, Hhi.out]; rfl
        have h1 : ln * (Kd.int .i32).sz = ln := by show ln * 1 = ln; omega
        rw [h1] at hC
        have := energy_any (some (ad.add ln)) (c - ln) ((x.take hn).drop ln) W hC (by rw [hlen]; omega) (by rw [hlen]; omega)
        rw [hlen, hv] at this
        exact this
      have hst := Lib.hid (fv_step (enL x) b (by rw [enL_len]; exact hlt))
      have hrd := Lib.hid (enL_rd x b hlt)
      generalize enB x b = eb at hsub hrd
      have h31 : IntKind.i64.wrap ((b : Int) + 1) = (b : Int) + 1 := IntWalk.i64_in _ (by omega)
      have h32 : ((b : Int) + 1).toNat = b + 1 := by omega
      have h33 : (0 : Int) ≤ (b : Int) + 1 := by omega
      have h34 : (b : Int) < 9 := by omega
      have h35 : (b : Int) + 1 < 9 := by omega
      go_wp2_with fail
      go_region_held3 (fun w' => w'.cell? ⟨w1.heap.size, b, none⟩ = some (.int .i64 (ln : Int)) ∧ w'.cell? ⟨w1.heap.size, b + 1, none⟩ = some (.int .i64 (hn : Int)))
        (first | exact hHeld | exact ⟨k1, k2⟩ | exact ⟨((hM7.out.put b eb).edge b (by omega)).trans (by rw [Hlo.out]), ((hM7.out.put b eb).edge (b + 1) (by omega)).trans (by rw [Hhi.out])⟩ | exact ⟨(hM7.out.edge b (by omega)).trans (by rw [Hlo.out]), (hM7.out.edge (b + 1) (by omega)).trans (by rw [Hhi.out])⟩)
        ((go_at_call 115; refine (hsub.out _ (pw_below_drewN hM.out.below 1)).mono ?_; rintro e w4 ⟨rfl, hb4⟩; (have hM7 := Lib.hid ((hM.out.drew 1).under hb4)); (have hcl := hM7.out.cell b hlt); (obtain ⟨d2, d3⟩ := hcl); clear hb4))
      have hM8 := Lib.hid (hM7.out.put b eb)
      rw [← hrd.out, hst.out, hrd.out] at hM8
      clear hM7 d2 d3 k1 k2
      go_wp2
      go_roundg (8 - (b + 1))
      case measure => omega
      case rel => exact ⟨b + 1, by omega, rfl, by push_cast; rfl, hM8.out⟩
    · obtain rfl : b = 8 := by omega
      have hrow := hM.out.row
      have hfull : fv (enL x) 8 = enL x := by have := fv_all (enL x); rw [enL_len] at this; exact this
      rw [hfull] at hrow
      have Hrow := Lib.hid hrow
      clear hrow hfull
      go_wp2
      go_ret2
      exact ⟨_, rfl, Kd.R_mono Hrow.out (fun _ _ => trivial), hM.out.below⟩
end Go.Proofs.YtojlgjdebokelabH

namespace Go.Proofs.YtojlgjdebokelabH
open Go.RowKit Go.Proofs.YtojlgjdebokelabW.PrintWords Go.Proofs.YtojlgjdebokelabW.PrintMore Go.Proofs.YtojlgjdebokelabW
attribute [local go_sem ↓] Go.wp_at_zero Go.wp_at_succ
open Go.Proofs.Ytojlgjdebokelab.PLib7
/-- Eight numbers out of a function, as cells. -/
abbrev rowE (h : Nat → Int) : Array Value := #[.int .i64 (h 0), .int .i64 (h 1), .int .i64 (h 2), .int .i64 (h 3), .int .i64 (h 4), .int .i64 (h 5), .int .i64 (h 6), .int .i64 (h 7)]
theorem rowE_at (g : Nat → Int) (j : Nat) (h : j < 8) : (rowE g)[j]? = some (.int .i64 (g j)) := by
  rcases j with _ | _ | _ | _ | _ | _ | _ | _ | j <;> first | rfl | omega
def upE (g : Nat → Int) (j : Nat) (v : Int) : Nat → Int := fun i => if i = j then v else g i
theorem rowE_set (g : Nat → Int) (j : Nat) (v : Int) (h : j < 8) : (rowE g).setIfInBounds j (.int .i64 v) = rowE (upE g j v) := by
  rcases j with _ | _ | _ | _ | _ | _ | _ | _ | j <;> first | rfl | omega
theorem rowE_congr (f g : Nat → Int) (h : ∀ i, i < 8 → f i = g i) : rowE f = rowE g := by
  have h0 := h 0 (by omega)
  have h1 := h 1 (by omega)
  have h2 := h 2 (by omega)
  have h3 := h 3 (by omega)
  have h4 := h 4 (by omega)
  have h5 := h 5 (by omega)
  have h6 := h 6 (by omega)
  have h7 := h 7 (by omega)
  simp [h0, h1, h2, h3, h4, h5, h6, h7]
def mixE (f g : Nat → Int) (k : Nat) : Nat → Int := fun i => if i < k then g i else f i
theorem mixE_step (f g : Nat → Int) (k : Nat) : upE (mixE f g k) k (g k) = mixE f g (k + 1) := by
  funext i
  unfold upE mixE
  split
  · subst_vars; rw [if_pos (by omega)]
  · split
    · rw [if_pos (by omega)]
    · rw [if_neg (by omega)]
theorem mixE_zero (f g : Nat → Int) : mixE f g 0 = f := by funext i; unfold mixE; rw [if_neg (by omega)]
theorem mixE_all (f g : Nat → Int) : rowE (mixE f g 8) = rowE g := rowE_congr _ _ (fun i hi => by unfold mixE; rw [if_pos hi])
theorem en_bd (l : List Int) (d : Nat) : ∀ (k : Nat) (s i r : Int), (0 ≤ s ∧ s ≤ 18446744073709551615) → d < k → band_energy.l0 d s l (l.length : Int) i = some r → 0 ≤ r ∧ r ≤ 18446744073709551615 := by
  induction d with
  | zero => intro k s i r hs hk h; simp [band_energy.l0] at h
  | succ d ih =>
    intro k s i r hs hk h
    simp only [band_energy.l0] at h
    split at h
    · split at h
      · exact ih (d + 1) _ _ r (by rw [IntKind.wrap_u64]; omega) (by omega) h
      · cases h
    · cases h; exact hs
theorem enF_bd (l : List Int) (hl : l.length ≤ 1000000) : 0 ≤ enF l ∧ enF l ≤ 18446744073709551615 :=
  en_bd l _ (l.length + 2) 0 0 _ (by omega) (by omega) (enF_f l hl)
theorem enB_bd (x : List Int) (b : Nat) (hl : x.length ≤ 120) : 0 ≤ enB x b ∧ enB x b ≤ 18446744073709551615 := enF_bd _ (by simp; omega)
/-- How loud a band is: the log of its energy a line. -/
def lqB (x : List Int) (b : Nat) : Int := (logV (IntKind.u64.wrap (enB x b / (edg x.length (b + 1) - edg x.length b) + 1))).1
def dB (x : List Int) (b : Nat) : Int := wrap64 (wrap32 ((lqB x b).tdiv 2))
def sumB (x : List Int) : Nat → Int
  | 0 => 0
  | k + 1 => wrap64 (sumB x k + dB x k)
def loudB (x : List Int) (b : Nat) : Int := wrap64 (dB x b - wrap64 ((sumB x 8).tdiv 8))
structure LdRel (EB OB : Nat) (x : List Int) (w wr : World) (h : Nat → Int) : Prop where
  res : wr.heap[w.heap.size]? = some (.cells (rowE fun _ => 0) 57 (0, 0))
  arr : wr.heap[w.heap.size + 1]? = some (.cells (rowE h) 57 (0, 0))
  edges : wr.heap[EB]? = some (.cells (row9 (edg x.length)) 170 (0, 0))
  says : ∀ k, k < 8 → wr.cell? ⟨OB, k, none⟩ = some (.int .u64 (enB x k))
  ne : w.heap.size + 1 < EB ∧ w.heap.size + 1 < OB
  below : Below w.heap.size w wr
theorem LdRel.put {EB OB : Nat} {x : List Int} {w wr : World} {h : Nat → Int} (r : LdRel EB OB x w wr h) (j : Nat) (v : Int) (hj : j < 8) : LdRel EB OB x w (wr.setCell ⟨w.heap.size + 1, j, none⟩ (.int .i64 v)) (upE h j v) := by
  obtain ⟨n1, n2⟩ := r.ne
  refine ⟨blk_far r.res (by show w.heap.size ≠ w.heap.size + 1; omega) _, blk_put r.arr j _ (rowE_set h j v hj), blk_far r.edges (by show EB ≠ w.heap.size + 1; omega) _, fun k hk => ?_, r.ne, r.below.setCell (by show w.heap.size ≤ w.heap.size + 1; omega) _⟩
  rw [cell_far (by show OB ≠ w.heap.size + 1; omega)]
  exact r.says k hk
theorem LdRel.under {EB OB : Nat} {x : List Int} {w wr w1 : World} {h : Nat → Int} (r : LdRel EB OB x w wr h) (hb : Below wr.heap.size wr w1) : LdRel EB OB x w w1 h :=
  ⟨blk_below r.res hb, blk_below r.arr hb, blk_below r.edges hb, fun k hk => (hb.cell (World.block_lt_of_cell? _ _ (r.says k hk))).trans (r.says k hk), r.ne, below_then r.below r.below.size hb⟩
theorem LdRel.drew {EB OB : Nat} {x : List Int} {w wr : World} {h : Nat → Int} (r : LdRel EB OB x w wr h) (n : Nat) : LdRel EB OB x w (wr.drewN n) h :=
  ⟨blk_drewN r.res n, blk_drewN r.arr n, blk_drewN r.edges n, r.says, r.ne, pw_below_drewN r.below n⟩
theorem LdRel.edge {EB OB : Nat} {x : List Int} {w wr : World} {h : Nat → Int} (r : LdRel EB OB x w wr h) (j : Nat) (hj : j < 9) : wr.cell? ⟨EB, j, none⟩ = some (.int .i64 (edg x.length j)) := by
  have := cell_of_row wr EB j _ _ (0, 0) r.edges
  rw [this, row9_at _ j hj]
theorem LdRel.cell {EB OB : Nat} {x : List Int} {w wr : World} {h : Nat → Int} (r : LdRel EB OB x w wr h) (j : Nat) (hj : j < 8) : wr.cell? ⟨w.heap.size + 1, j, none⟩ = some (.int .i64 (h j)) := by
  have := cell_of_row wr (w.heap.size + 1) j _ _ (0, 0) r.arr
  rw [this, rowE_at _ j hj]
set_option maxRecDepth 100000 in
set_option maxHeartbeats 4000000 in
theorem loud_ok (A : Option Addr) (c : Nat) (x : List Int) (w : World) (hcap : x.length ≤ c) (hC : Kd.C (Kd.int .i32) w A x.length x) (hn : Nok (x.length : Int)) :
    Calls Try.prog 94 #[.slice A x.length c] w fun e w' => e = .returned (.tuple #[.agg (rowE (loudB x)), .int .i64 0]) ∧ Below w.heap.size w w' := by
  have HA : Hid (Below w.heap.size w ((w.alloc (.cells (rowE fun _ => 0) 57)).alloc (.cells (rowE fun _ => 0) 57))) := ((Below.refl _ _).alloc (Nat.le_refl _) _).alloc (by simp) _
  have C := Lib.hid (energies_ok A c x _ hcap (Kd.C_below hC HA.out) hn)
  have D := fun W => Lib.hid (bedges_ok (x.length : Int) W hn)
  have HN := Lib.hid hn
  have hl : x.length ≤ 120 := by rcases hn with h | h | h | h <;> omega
  clear hn hC
  go_enter Try.func94, Try.ntmps94
  go_wp2_with fail
  refine C.out.mono ?_
  rintro e w1 ⟨OB, rfl, hR, hb⟩
  have HR := Lib.hid hR
  have HB1 := Lib.hid hb
  clear hR hb C
  go_wp2_with fail
  refine (D w1).out.mono ?_
  rintro e w2 ⟨EB, rfl, hE, hEl, hb⟩
  have h0 : Hid (LdRel EB OB x w w2 (mixE (fun _ => 0) (dB x) 0)) := by
    have hz := HB1.out.size
    simp at hz
    have hOB := Kd.R_base HR.out OB rfl
    simp at hOB
    have e1 : ((w.alloc (.cells (rowE fun _ => 0) 57)).alloc (.cells (rowE fun _ => 0) 57)).heap[w.heap.size]? = some (.cells (rowE fun _ => 0) 57 (0, 0)) := blk_below (heap_alloc_new w _) ((Below.refl _ _).alloc (Nat.le_refl _) _)
    have e2 : ((w.alloc (.cells (rowE fun _ => 0) 57)).alloc (.cells (rowE fun _ => 0) 57)).heap[w.heap.size + 1]? = some (.cells (rowE fun _ => 0) 57 (0, 0)) := by
      have := heap_alloc_new (w.alloc (.cells (rowE fun _ => 0) 57)) (.cells (rowE fun _ => 0) 57)
      simpa using this
    rw [mixE_zero]
    refine ⟨blk_below (blk_below e1 HB1.out) hb, blk_below (blk_below e2 HB1.out) hb, hE, fun k hk => ?_, ⟨by omega, by omega⟩, ?_⟩
    · obtain ⟨A', c', e, -, hC⟩ := Kd.R_reads HR.out
      cases e
      obtain ⟨ad, e, hc⟩ := Kd.at_int hC (k : Int) (by omega) (by rw [enL_len]; omega)
      cases e
      rw [enL_rd x k hk, Int.toNat_natCast] at hc
      have e : (⟨OB, 0, none⟩ : Addr).add k = ⟨OB, k, none⟩ := by
        unfold Addr.add; split <;> simp_all
      rw [e] at hc
      exact (hb.cell (World.block_lt_of_cell? _ _ hc)).trans hc
    · exact below_then (below_then HA.out (by simp; omega) HB1.out) (by omega) hb
  clear HR HB1 hE hEl hb D
  go_wp2_with fail
  go_loopg [9, 32] 8 (fun gk s9 s32 wr => ∃ b : Nat, b ≤ 8 ∧ gk = 8 - b ∧ s9 = .int .i64 (sumB x b) ∧ s32 = .int .i64 b ∧ Hid (LdRel EB OB x w wr (mixE (fun _ => 0) (dB x) b)))
  case atStart => exact ⟨0, by omega, rfl, rfl, rfl, h0⟩
  case round =>
    clear h0
    obtain ⟨b, hb, rfl, rfl, rfl, hM⟩ := hrel
    by_cases hlt : b < 8
    · have c1 : (b : Int) < 8 := by omega
      have c0 : (0 : Int) ≤ (b : Int) := by omega
      have k0 : wr.cell? ⟨OB, b, none⟩ = some (.int .u64 (enB x b)) := hM.out.says b hlt
      have k1 : wr.cell? ⟨EB, b, none⟩ = some (.int .i64 (edg x.length b)) := hM.out.edge b (by omega)
      have k2 : wr.cell? ⟨EB, b + 1, none⟩ = some (.int .i64 (edg x.length (b + 1))) := hM.out.edge (b + 1) (by omega)
      obtain ⟨e0, e1, e2⟩ := edg_bd _ HN.out b hlt
      have e3 := edg_lt _ HN.out b hlt
      have hlq : Hid (lqB x b = (logV (IntKind.u64.wrap (enB x b / (edg x.length (b + 1) - edg x.length b) + 1))).1) := rfl
      have hdB : Hid (dB x b = wrap64 (wrap32 ((lqB x b).tdiv 2))) := rfl
      have hsum : Hid (sumB x (b + 1) = wrap64 (sumB x b + dB x b)) := rfl
      generalize edg x.length b = lo at k1 e0 e1 e3 hlq
      generalize edg x.length (b + 1) = hi at k2 e1 e2 e3 hlq
      have hen := enB_bd x b hl
      generalize enB x b = en at k0 hlq hen
      generalize sumB x b = s at hsum ⊢
      obtain ⟨q0, q1⟩ := hen
      have hbr : IntKind.i64.wrap ((b : Int) + 1) = (b : Int) + 1 := IntWalk.i64_in _ (by omega)
      have hbt : ((b : Int) + 1).toNat = b + 1 := by omega
      have hb9 : (b : Int) < 9 := by omega
      have hb10 : (b : Int) + 1 < 9 := by omega
      have hb11 : (0 : Int) ≤ (b : Int) + 1 := by omega
      have hd0 : 0 < hi - lo := by omega
      have hd1 : hi - lo ≤ 120 := by omega
      have hd2 : IntKind.i64.wrap (hi - lo) = hi - lo := IntWalk.i64_in _ (by omega)
      have hd3 : IntKind.u64.wrap (hi - lo) = hi - lo := wrap_u64_in _ (by omega)
      have hd6 : IntKind.u64.wrap (en.tdiv (hi - lo)) = en / (hi - lo) := by
        rw [Int.tdiv_eq_ediv_of_nonneg q0]
        exact wrap_u64_in _ ⟨Int.ediv_nonneg q0 (by omega), Int.le_trans (Int.ediv_le_self _ q0) q1⟩
      have hd4 : ¬ (hi - lo = 0) := by omega
      have hd5 : (hi - lo == 0) = false := by simpa using hd4
      go_wp2_with fail
      go_region_held3 (fun w' => w'.cell? ⟨EB, b, none⟩ = some (.int .i64 lo) ∧ w'.cell? ⟨EB, b + 1, none⟩ = some (.int .i64 hi))
        (first | exact hHeld | exact ⟨k1, k2⟩ | exact ⟨k3, k4⟩)
        ((go_at_call 111; refine (log_any (IntKind.u64.wrap (en / (hi - lo) + 1)) _ (by rw [IntKind.wrap_u64]; omega) (by rw [IntKind.wrap_u64]; omega)).mono ?_; rintro e w4 ⟨rfl, hb4⟩; (have hM7 := Lib.hid ((hM.out.drew 1).under hb4)); (have k3 : w4.cell? ⟨EB, b, none⟩ = some (.int .i64 lo) := (hb4.cell (World.block_lt_of_cell? _ _ (by exact k1))).trans k1); (have k4 : w4.cell? ⟨EB, b + 1, none⟩ = some (.int .i64 hi) := (hb4.cell (World.block_lt_of_cell? _ _ (by exact k2))).trans k2); clear hb4))
      rw [← hlq.out]
      generalize lqB x b = q at hdB ⊢
      have d0 := hM7.out.cell b hlt
      have d1 := blk_frozen hM7.out.arr b
      clear hd0 hd1 hd2 hd3 hd4 hd5 hd6 hb9 hb10 hb11 hbr hbt k0 k1 k2 k3 k4
      clear hlq
      go_wp2
      have hM8 := Lib.hid (hM7.out.put b (dB x b) hlt)
      rw [mixE_step, hdB.out] at hM8
      rw [hdB.out] at hsum
      go_roundg (8 - (b + 1))
      case measure => omega
      case rel => exact ⟨b + 1, by omega, rfl, by rw [hsum.out], by push_cast; rfl, hM8.out⟩
    · obtain rfl : b = 8 := by omega
      have hM2 : Hid (LdRel EB OB x w wr (mixE (dB x) (loudB x) 0)) := by
        rw [mixE_zero]
        refine ⟨hM.out.res, ?_, hM.out.edges, hM.out.says, hM.out.ne, hM.out.below⟩
        rw [← mixE_all (fun _ => 0) (dB x)]; exact hM.out.arr
      have hld : Hid (∀ k, loudB x k = wrap64 (dB x k - wrap64 ((sumB x 8).tdiv 8))) := fun _ => rfl
      generalize sumB x 8 = s at hld ⊢
      clear hM
      go_wp2_with fail
      go_loopg [66] 8 (fun gk s66 wr => ∃ k : Nat, k ≤ 8 ∧ gk = 8 - k ∧ s66 = .int .i64 k ∧ Hid (LdRel EB OB x w wr (mixE (dB x) (loudB x) k)))
      case atStart => exact ⟨0, by omega, rfl, rfl, hM2⟩
      case round =>
        clear hM2
        obtain ⟨k, hk, rfl, rfl, hM⟩ := hrel
        by_cases hlt : k < 8
        · have c1 : (k : Int) < 8 := by omega
          have c0 : (0 : Int) ≤ (k : Int) := by omega
          have d0 : wr.cell? ⟨w.heap.size + 1, k, none⟩ = some (.int .i64 (dB x k)) := by
            have := hM.out.cell k hlt
            rw [this]; unfold mixE; rw [if_neg (by omega)]
          have d1 := blk_frozen hM.out.arr k
          have hq := Lib.hid (hld.out k)
          generalize dB x k = q at d0 hq
          go_wp2
          have hM8 := Lib.hid (hM.out.put k (loudB x k) hlt)
          rw [mixE_step, hq.out] at hM8
          go_roundg (8 - (k + 1))
          case measure => omega
          case rel => exact ⟨k + 1, by omega, rfl, by push_cast; rfl, hM8.out⟩
        · obtain rfl : k = 8 := by omega
          have d0 : wr.cell? ⟨w.heap.size + 1, 0, none⟩ = some (.int .i64 (loudB x 0)) := hM.out.cell 0 (by omega)
          have d1 : wr.cell? ⟨w.heap.size + 1, 1, none⟩ = some (.int .i64 (loudB x 1)) := hM.out.cell 1 (by omega)
          have d2 : wr.cell? ⟨w.heap.size + 1, 2, none⟩ = some (.int .i64 (loudB x 2)) := hM.out.cell 2 (by omega)
          have d3 : wr.cell? ⟨w.heap.size + 1, 3, none⟩ = some (.int .i64 (loudB x 3)) := hM.out.cell 3 (by omega)
          have d4 : wr.cell? ⟨w.heap.size + 1, 4, none⟩ = some (.int .i64 (loudB x 4)) := hM.out.cell 4 (by omega)
          have d5 : wr.cell? ⟨w.heap.size + 1, 5, none⟩ = some (.int .i64 (loudB x 5)) := hM.out.cell 5 (by omega)
          have d6 : wr.cell? ⟨w.heap.size + 1, 6, none⟩ = some (.int .i64 (loudB x 6)) := hM.out.cell 6 (by omega)
          have d7 : wr.cell? ⟨w.heap.size + 1, 7, none⟩ = some (.int .i64 (loudB x 7)) := hM.out.cell 7 (by omega)
          have o0 : wr.cell? ⟨w.heap.size, 0, none⟩ = some (.int .i64 0) := blk_cell hM.out.res 0
          have f0 := blk_frozen hM.out.res 0
          have o1 : wr.cell? ⟨w.heap.size, 1, none⟩ = some (.int .i64 0) := blk_cell hM.out.res 1
          have f1 := blk_frozen hM.out.res 1
          have o2 : wr.cell? ⟨w.heap.size, 2, none⟩ = some (.int .i64 0) := blk_cell hM.out.res 2
          have f2 := blk_frozen hM.out.res 2
          have o3 : wr.cell? ⟨w.heap.size, 3, none⟩ = some (.int .i64 0) := blk_cell hM.out.res 3
          have f3 := blk_frozen hM.out.res 3
          have o4 : wr.cell? ⟨w.heap.size, 4, none⟩ = some (.int .i64 0) := blk_cell hM.out.res 4
          have f4 := blk_frozen hM.out.res 4
          have o5 : wr.cell? ⟨w.heap.size, 5, none⟩ = some (.int .i64 0) := blk_cell hM.out.res 5
          have f5 := blk_frozen hM.out.res 5
          have o6 : wr.cell? ⟨w.heap.size, 6, none⟩ = some (.int .i64 0) := blk_cell hM.out.res 6
          have f6 := blk_frozen hM.out.res 6
          have o7 : wr.cell? ⟨w.heap.size, 7, none⟩ = some (.int .i64 0) := blk_cell hM.out.res 7
          have f7 := blk_frozen hM.out.res 7
          have hfin : Hid (((((((((wr.setCell ⟨w.heap.size, 0, none⟩ (.int .i64 (loudB x 0))).setCell ⟨w.heap.size, 1, none⟩ (.int .i64 (loudB x 1))).setCell ⟨w.heap.size, 2, none⟩ (.int .i64 (loudB x 2))).setCell ⟨w.heap.size, 3, none⟩ (.int .i64 (loudB x 3))).setCell ⟨w.heap.size, 4, none⟩ (.int .i64 (loudB x 4))).setCell ⟨w.heap.size, 5, none⟩ (.int .i64 (loudB x 5))).setCell ⟨w.heap.size, 6, none⟩ (.int .i64 (loudB x 6))).setCell ⟨w.heap.size, 7, none⟩ (.int .i64 (loudB x 7))).heap[w.heap.size]? = some (.cells (rowE (loudB x)) 57 (0, 0))) := (blk_put (blk_put (blk_put (blk_put (blk_put (blk_put (blk_put (blk_put hM.out.res 0 _ rfl) 1 _ rfl) 2 _ rfl) 3 _ rfl) 4 _ rfl) 5 _ rfl) 6 _ rfl) 7 _ rfl)
          have hbel : Hid (Below w.heap.size w ((((((((wr.setCell ⟨w.heap.size, 0, none⟩ (.int .i64 (loudB x 0))).setCell ⟨w.heap.size, 1, none⟩ (.int .i64 (loudB x 1))).setCell ⟨w.heap.size, 2, none⟩ (.int .i64 (loudB x 2))).setCell ⟨w.heap.size, 3, none⟩ (.int .i64 (loudB x 3))).setCell ⟨w.heap.size, 4, none⟩ (.int .i64 (loudB x 4))).setCell ⟨w.heap.size, 5, none⟩ (.int .i64 (loudB x 5))).setCell ⟨w.heap.size, 6, none⟩ (.int .i64 (loudB x 6))).setCell ⟨w.heap.size, 7, none⟩ (.int .i64 (loudB x 7)))) := ((((((((hM.out.below.setCell (Nat.le_refl _) _).setCell (Nat.le_refl _) _).setCell (Nat.le_refl _) _).setCell (Nat.le_refl _) _).setCell (Nat.le_refl _) _).setCell (Nat.le_refl _) _).setCell (Nat.le_refl _) _).setCell (Nat.le_refl _) _)
          go_wp2
          generalize ((((((((wr.setCell ⟨w.heap.size, 0, none⟩ (.int .i64 (loudB x 0))).setCell ⟨w.heap.size, 1, none⟩ (.int .i64 (loudB x 1))).setCell ⟨w.heap.size, 2, none⟩ (.int .i64 (loudB x 2))).setCell ⟨w.heap.size, 3, none⟩ (.int .i64 (loudB x 3))).setCell ⟨w.heap.size, 4, none⟩ (.int .i64 (loudB x 4))).setCell ⟨w.heap.size, 5, none⟩ (.int .i64 (loudB x 5))).setCell ⟨w.heap.size, 6, none⟩ (.int .i64 (loudB x 6))).setCell ⟨w.heap.size, 7, none⟩ (.int .i64 (loudB x 7))) = W at hfin hbel ⊢
          exact bodyPost_ret (v := .tuple #[.agg (rowE (loudB x)), .int .i64 0]) (results_list (rs := [.cell 2 57, .tmp 3]) rfl (by simp) (.cell w.heap.size 57 _ (0, 0) _ rfl hfin.out Try.underlying57 rfl (by kernel_rfl) (.tmp .nil))) rfl ⟨rfl, hbel.out⟩
end Go.Proofs.YtojlgjdebokelabH

namespace Go.Proofs.YtojlgjdebokelabH
open Go.RowKit Go.Proofs.YtojlgjdebokelabW.PrintWords Go.Proofs.YtojlgjdebokelabW.PrintMore Go.Proofs.YtojlgjdebokelabW
attribute [local go_sem ↓] Go.wp_at_zero Go.wp_at_succ
open Go.Proofs.Ytojlgjdebokelab.PLib7
def z8 : Nat → Int := fun _ => 0
set_option maxRecDepth 100000 in
set_option maxHeartbeats 4000000 in
theorem loud_no (A : Option Addr) (n c : Nat) (w : World) (hn : ¬ Nok (n : Int)) :
    Calls Try.prog 94 #[.slice A n c] w fun e w' => e = .returned (.tuple #[.agg (rowE z8), .int .i64 1]) ∧ Below w.heap.size w w' := by
  have HA : Hid (Below w.heap.size w ((w.alloc (.cells (rowE fun _ => 0) 57)).alloc (.cells (rowE fun _ => 0) 57))) := ((Below.refl _ _).alloc (Nat.le_refl _) _).alloc (by simp) _
  have C := Lib.hid (energies_no A n c ((w.alloc (.cells (rowE fun _ => 0) 57)).alloc (.cells (rowE fun _ => 0) 57)) hn)
  clear hn
  go_enter Try.func94, Try.ntmps94
  go_wp2_with fail
  refine C.out.mono ?_
  rintro e w1 ⟨rfl, hb⟩
  have HB1 := Lib.hid hb
  clear hb C
  have e1 : Hid (w1.heap[w.heap.size]? = some (.cells (rowE fun _ => 0) 57 (0, 0))) := blk_below (blk_below (heap_alloc_new w _) ((Below.refl _ _).alloc (Nat.le_refl _) _)) HB1.out
  have e2 : Hid (w1.heap[w.heap.size + 1]? = some (.cells (rowE fun _ => 0) 57 (0, 0))) := by
    have := heap_alloc_new (w.alloc (.cells (rowE fun _ => 0) 57)) (.cells (rowE fun _ => 0) 57)
    exact blk_below (by simpa using this) HB1.out
  have hbw : Hid (Below w.heap.size w w1) := below_then HA.out (by simp; omega) HB1.out
  have d0 : w1.cell? ⟨w.heap.size + 1, 0, none⟩ = some (.int .i64 0) := blk_cell e2.out 0
  have o0 : w1.cell? ⟨w.heap.size, 0, none⟩ = some (.int .i64 0) := blk_cell e1.out 0
  have f0 := blk_frozen e1.out 0
  have d1 : w1.cell? ⟨w.heap.size + 1, 1, none⟩ = some (.int .i64 0) := blk_cell e2.out 1
  have o1 : w1.cell? ⟨w.heap.size, 1, none⟩ = some (.int .i64 0) := blk_cell e1.out 1
  have f1 := blk_frozen e1.out 1
  have d2 : w1.cell? ⟨w.heap.size + 1, 2, none⟩ = some (.int .i64 0) := blk_cell e2.out 2
  have o2 : w1.cell? ⟨w.heap.size, 2, none⟩ = some (.int .i64 0) := blk_cell e1.out 2
  have f2 := blk_frozen e1.out 2
  have d3 : w1.cell? ⟨w.heap.size + 1, 3, none⟩ = some (.int .i64 0) := blk_cell e2.out 3
  have o3 : w1.cell? ⟨w.heap.size, 3, none⟩ = some (.int .i64 0) := blk_cell e1.out 3
  have f3 := blk_frozen e1.out 3
  have d4 : w1.cell? ⟨w.heap.size + 1, 4, none⟩ = some (.int .i64 0) := blk_cell e2.out 4
  have o4 : w1.cell? ⟨w.heap.size, 4, none⟩ = some (.int .i64 0) := blk_cell e1.out 4
  have f4 := blk_frozen e1.out 4
  have d5 : w1.cell? ⟨w.heap.size + 1, 5, none⟩ = some (.int .i64 0) := blk_cell e2.out 5
  have o5 : w1.cell? ⟨w.heap.size, 5, none⟩ = some (.int .i64 0) := blk_cell e1.out 5
  have f5 := blk_frozen e1.out 5
  have d6 : w1.cell? ⟨w.heap.size + 1, 6, none⟩ = some (.int .i64 0) := blk_cell e2.out 6
  have o6 : w1.cell? ⟨w.heap.size, 6, none⟩ = some (.int .i64 0) := blk_cell e1.out 6
  have f6 := blk_frozen e1.out 6
  have d7 : w1.cell? ⟨w.heap.size + 1, 7, none⟩ = some (.int .i64 0) := blk_cell e2.out 7
  have o7 : w1.cell? ⟨w.heap.size, 7, none⟩ = some (.int .i64 0) := blk_cell e1.out 7
  have f7 := blk_frozen e1.out 7
  have hfin : Hid (((((((((w1.setCell ⟨w.heap.size, 0, none⟩ (.int .i64 0)).setCell ⟨w.heap.size, 1, none⟩ (.int .i64 0)).setCell ⟨w.heap.size, 2, none⟩ (.int .i64 0)).setCell ⟨w.heap.size, 3, none⟩ (.int .i64 0)).setCell ⟨w.heap.size, 4, none⟩ (.int .i64 0)).setCell ⟨w.heap.size, 5, none⟩ (.int .i64 0)).setCell ⟨w.heap.size, 6, none⟩ (.int .i64 0)).setCell ⟨w.heap.size, 7, none⟩ (.int .i64 0)).heap[w.heap.size]? = some (.cells (rowE z8) 57 (0, 0))) := (blk_put (blk_put (blk_put (blk_put (blk_put (blk_put (blk_put (blk_put e1.out 0 _ rfl) 1 _ rfl) 2 _ rfl) 3 _ rfl) 4 _ rfl) 5 _ rfl) 6 _ rfl) 7 _ rfl)
  have hbel : Hid (Below w.heap.size w ((((((((w1.setCell ⟨w.heap.size, 0, none⟩ (.int .i64 0)).setCell ⟨w.heap.size, 1, none⟩ (.int .i64 0)).setCell ⟨w.heap.size, 2, none⟩ (.int .i64 0)).setCell ⟨w.heap.size, 3, none⟩ (.int .i64 0)).setCell ⟨w.heap.size, 4, none⟩ (.int .i64 0)).setCell ⟨w.heap.size, 5, none⟩ (.int .i64 0)).setCell ⟨w.heap.size, 6, none⟩ (.int .i64 0)).setCell ⟨w.heap.size, 7, none⟩ (.int .i64 0))) := ((((((((hbw.out.setCell (Nat.le_refl _) _).setCell (Nat.le_refl _) _).setCell (Nat.le_refl _) _).setCell (Nat.le_refl _) _).setCell (Nat.le_refl _) _).setCell (Nat.le_refl _) _).setCell (Nat.le_refl _) _).setCell (Nat.le_refl _) _)
  go_wp2
  generalize ((((((((w1.setCell ⟨w.heap.size, 0, none⟩ (.int .i64 0)).setCell ⟨w.heap.size, 1, none⟩ (.int .i64 0)).setCell ⟨w.heap.size, 2, none⟩ (.int .i64 0)).setCell ⟨w.heap.size, 3, none⟩ (.int .i64 0)).setCell ⟨w.heap.size, 4, none⟩ (.int .i64 0)).setCell ⟨w.heap.size, 5, none⟩ (.int .i64 0)).setCell ⟨w.heap.size, 6, none⟩ (.int .i64 0)).setCell ⟨w.heap.size, 7, none⟩ (.int .i64 0)) = W at hfin hbel ⊢
  exact bodyPost_ret (v := .tuple #[.agg (rowE z8), .int .i64 1]) (results_list (rs := [.cell 2 57, .tmp 3]) rfl (by simp) (.cell w.heap.size 57 _ (0, 0) _ rfl hfin.out Try.underlying57 rfl (by kernel_rfl) (.tmp .nil))) rfl ⟨rfl, hbel.out⟩
/-- How far apart two rows are. -/
def distN (a b : Nat → Int) : Nat → Int
  | 0 => 0
  | k + 1 => wrap64 (distN a b k + max (wrap64 (a k - b k)) (wrap64 (b k - a k)))
structure DiRel (a b : Nat → Int) (w wr : World) : Prop where
  ba : wr.heap[w.heap.size]? = some (.cells (rowE a) 57 (0, 0))
  bb : wr.heap[w.heap.size + 1]? = some (.cells (rowE b) 57 (0, 0))
  below : Below w.heap.size w wr
theorem DiRel.drew {a b : Nat → Int} {w wr : World} (h : DiRel a b w wr) (n : Nat) : DiRel a b w (wr.drewN n) := ⟨blk_drewN h.ba n, blk_drewN h.bb n, pw_below_drewN h.below n⟩
theorem idxE (h : Nat → Int) (k : Nat) (hk : k < 8) : ∀ w, (Instr.index 57 (.agg (rowE h)) (.int .i64 (k : Int))).run Try.prog w = .ok (.int .i64 (h k)) w := by
  rcases k with _ | _ | _ | _ | _ | _ | _ | _ | k <;> first | omega | (intro w; kernel_rfl)
set_option maxRecDepth 100000 in
set_option maxHeartbeats 4000000 in
theorem dist_any (a b : Nat → Int) (w : World) :
    Calls Try.prog 95 #[.agg (rowE a), .agg (rowE b)] w fun e w' => e = .returned (.int .i64 (distN a b 8)) ∧ Below w.heap.size w w' := by
  have h0 : Hid (DiRel a b w ((w.alloc (.cells (rowE a) 57)).alloc (.cells (rowE b) 57))) := by
    refine ⟨blk_below (heap_alloc_new w _) ((Below.refl _ _).alloc (Nat.le_refl _) _), ?_, ((Below.refl _ _).alloc (Nat.le_refl _) _).alloc (by simp) _⟩
    have := heap_alloc_new (w.alloc (.cells (rowE a) 57)) (.cells (rowE b) 57)
    simpa using this
  go_enter Try.func95, Try.ntmps95
  go_wp2_with fail
  go_loopg [5, 9] 8 (fun gk s5 s9 wr => ∃ k : Nat, k ≤ 8 ∧ gk = 8 - k ∧ s5 = .int .i64 (distN a b k) ∧ s9 = .int .i64 k ∧ Hid (DiRel a b w wr))
  case atStart => exact ⟨0, by omega, rfl, rfl, rfl, h0⟩
  case round =>
    clear h0
    obtain ⟨k, hk, rfl, rfl, rfl, hM⟩ := hrel
    by_cases hlt : k < 8
    · have c1 : (k : Int) < 8 := by omega
      have c0 : (0 : Int) ≤ (k : Int) := by omega
      have q := idxE a k hlt
      have d1 : wr.cell? ⟨w.heap.size + 1, k, none⟩ = some (.int .i64 (b k)) := (blk_cell hM.out.bb k).trans (rowE_at b k hlt)
      have hst : Hid (distN a b (k + 1) = wrap64 (distN a b k + max (wrap64 (a k - b k)) (wrap64 (b k - a k)))) := rfl
      generalize distN a b k = n at hst ⊢
      generalize a k = x at q hst
      generalize b k = y at d1 hst
      go_wp2_with fail
      go_quiet (fail)
      have hM2 := Lib.hid (hM.out.drew nq)
      go_wp2
      go_roundg (8 - (k + 1))
      case measure => omega
      case rel => exact ⟨k + 1, by omega, rfl, by rw [hst.out], by push_cast; rfl, hM2.out⟩
    · obtain rfl : k = 8 := by omega
      go_wp2
      go_ret
      exact ⟨rfl, hM.out.below⟩
end Go.Proofs.YtojlgjdebokelabH

namespace Go.Proofs.YtojlgjdebokelabH
open Go.RowKit Go.Proofs.YtojlgjdebokelabW.PrintWords Go.Proofs.YtojlgjdebokelabW.PrintMore Go.Proofs.YtojlgjdebokelabW
attribute [local go_sem ↓] Go.wp_at_zero Go.wp_at_succ
open Go.Proofs.Ytojlgjdebokelab.PLib7
theorem bookA_at (c j : Nat) (hc : c < 16) (hj : j < 8) : bookA[c * 8 + j]? = some (.int .i64 (bk c j)) := by
  rcases c with _ | _ | _ | _ | _ | _ | _ | _ | _ | _ | _ | _ | _ | _ | _ | _ | c <;> first | omega | (rcases j with _ | _ | _ | _ | _ | _ | _ | _ | j <;> first | omega | kernel_rfl)
/-- The code of the least distance. -/
def bestN (d : Nat → Int) : Nat → Nat
  | 0 => 0
  | c + 1 => if distN d (bk c) 8 < distN d (bk (bestN d c)) 8 then c else bestN d c
theorem bestN_lt (d : Nat → Int) : ∀ c, c ≤ 16 → bestN d c < 16
  | 0, _ => by unfold bestN; omega
  | c + 1, h => by
    have := bestN_lt d c (by omega)
    unfold bestN
    split <;> omega
structure FiRel (D RB SB : Nat) (x : List Int) (w wr : World) (g : Nat → Int) : Prop where
  res : wr.heap[w.heap.size]? = some (.cells (row9 z8) 61 (0, 0))
  arr : wr.heap[D]? = some (.cells (rowE (loudB x)) 57 (0, 0))
  rows : wr.heap[RB]? = some (.cells bookA 113 (0, 0))
  shp : wr.heap[SB]? = some (.cells (row9 g) 61 (0, 0))
  ne : w.heap.size < D ∧ D < RB ∧ RB < SB
  below : Below w.heap.size w wr
variable {D RB SB : Nat} {x : List Int} {w wr w1 : World} {g : Nat → Int}
theorem FiRel.under (r : FiRel D RB SB x w wr g) (hb : Below wr.heap.size wr w1) : FiRel D RB SB x w w1 g :=
  ⟨blk_below r.res hb, blk_below r.arr hb, blk_below r.rows hb, blk_below r.shp hb, r.ne, below_then r.below r.below.size hb⟩
theorem FiRel.drew (r : FiRel D RB SB x w wr g) (n : Nat) : FiRel D RB SB x w (wr.drewN n) g :=
  ⟨blk_drewN r.res n, blk_drewN r.arr n, blk_drewN r.rows n, blk_drewN r.shp n, r.ne, pw_below_drewN r.below n⟩
def up9 (g : Nat → Int) (j : Nat) (v : Int) : Nat → Int := fun i => if i = j then v else g i
theorem row9_set (g : Nat → Int) (j : Nat) (v : Int) (h : j < 9) : (row9 g).setIfInBounds j (.int .i64 v) = row9 (up9 g j v) := by
  rcases j with _ | _ | _ | _ | _ | _ | _ | _ | _ | j <;> first | rfl | omega
theorem FiRel.put (r : FiRel D RB SB x w wr g) (j : Nat) (v : Int) (hj : j < 9) : FiRel D RB SB x w (wr.setCell ⟨SB, j, none⟩ (.int .i64 v)) (up9 g j v) := by
  obtain ⟨n1, n2, n3⟩ := r.ne
  exact ⟨blk_far r.res (by show w.heap.size ≠ SB; omega) _, blk_far r.arr (by show D ≠ SB; omega) _, blk_far r.rows (by show RB ≠ SB; omega) _, blk_put r.shp j _ (row9_set g j v hj), r.ne, r.below.setCell (by show w.heap.size ≤ SB; omega) _⟩
theorem FiRel.dcell (r : FiRel D RB SB x w wr g) (j : Nat) (hj : j < 8) : wr.cell? ⟨D, j, none⟩ = some (.int .i64 (loudB x j)) := (blk_cell r.arr j).trans (rowE_at _ j hj)
theorem FiRel.rcell (r : FiRel D RB SB x w wr g) (c : Nat) (hc : c < 16) (j : Nat) (hj : j < 8) : wr.cell? ⟨RB, c * 8 + j, none⟩ = some (.int .i64 (bk c j)) := (blk_cell r.rows (c * 8 + j)).trans (bookA_at c j hc hj)
theorem FiRel.scell (r : FiRel D RB SB x w wr g) (j : Nat) (hj : j < 9) : wr.cell? ⟨SB, j, none⟩ = some (.int .i64 (g j)) := (blk_cell r.shp j).trans (row9_at _ j hj)
theorem FiRel.code (r : FiRel D RB SB x w wr g) (m : Nat) (h : g 0 = (m : Int)) : wr.cell? ⟨SB, 0, none⟩ = some (.int .i64 (m : Int)) := by rw [← h]; exact r.scell 0 (by omega)
theorem FiRel.held (r : FiRel D RB SB x w wr g) (c m : Nat) (hc : c < 16) (hm : m < 16) (h0 : g 0 = (m : Int)) : wr.cell? ⟨D, 0, none⟩ = some (.int .i64 (loudB x 0)) ∧ wr.cell? ⟨D, 1, none⟩ = some (.int .i64 (loudB x 1)) ∧ wr.cell? ⟨D, 2, none⟩ = some (.int .i64 (loudB x 2)) ∧ wr.cell? ⟨D, 3, none⟩ = some (.int .i64 (loudB x 3)) ∧ wr.cell? ⟨D, 4, none⟩ = some (.int .i64 (loudB x 4)) ∧ wr.cell? ⟨D, 5, none⟩ = some (.int .i64 (loudB x 5)) ∧ wr.cell? ⟨D, 6, none⟩ = some (.int .i64 (loudB x 6)) ∧ wr.cell? ⟨D, 7, none⟩ = some (.int .i64 (loudB x 7)) ∧ wr.cell? ⟨RB, c * 8, none⟩ = some (.int .i64 (bk c 0)) ∧ wr.cell? ⟨RB, c * 8 + 1, none⟩ = some (.int .i64 (bk c 1)) ∧ wr.cell? ⟨RB, c * 8 + 2, none⟩ = some (.int .i64 (bk c 2)) ∧ wr.cell? ⟨RB, c * 8 + 3, none⟩ = some (.int .i64 (bk c 3)) ∧ wr.cell? ⟨RB, c * 8 + 4, none⟩ = some (.int .i64 (bk c 4)) ∧ wr.cell? ⟨RB, c * 8 + 5, none⟩ = some (.int .i64 (bk c 5)) ∧ wr.cell? ⟨RB, c * 8 + 6, none⟩ = some (.int .i64 (bk c 6)) ∧ wr.cell? ⟨RB, c * 8 + 7, none⟩ = some (.int .i64 (bk c 7)) ∧ wr.cell? ⟨RB, m * 8, none⟩ = some (.int .i64 (bk m 0)) ∧ wr.cell? ⟨RB, m * 8 + 1, none⟩ = some (.int .i64 (bk m 1)) ∧ wr.cell? ⟨RB, m * 8 + 2, none⟩ = some (.int .i64 (bk m 2)) ∧ wr.cell? ⟨RB, m * 8 + 3, none⟩ = some (.int .i64 (bk m 3)) ∧ wr.cell? ⟨RB, m * 8 + 4, none⟩ = some (.int .i64 (bk m 4)) ∧ wr.cell? ⟨RB, m * 8 + 5, none⟩ = some (.int .i64 (bk m 5)) ∧ wr.cell? ⟨RB, m * 8 + 6, none⟩ = some (.int .i64 (bk m 6)) ∧ wr.cell? ⟨RB, m * 8 + 7, none⟩ = some (.int .i64 (bk m 7)) ∧ wr.cell? ⟨SB, 0, none⟩ = some (.int .i64 (m : Int)) :=
  ⟨r.dcell 0 (by omega), r.dcell 1 (by omega), r.dcell 2 (by omega), r.dcell 3 (by omega), r.dcell 4 (by omega), r.dcell 5 (by omega), r.dcell 6 (by omega), r.dcell 7 (by omega), r.rcell c hc 0 (by omega), r.rcell c hc 1 (by omega), r.rcell c hc 2 (by omega), r.rcell c hc 3 (by omega), r.rcell c hc 4 (by omega), r.rcell c hc 5 (by omega), r.rcell c hc 6 (by omega), r.rcell c hc 7 (by omega), r.rcell m hm 0 (by omega), r.rcell m hm 1 (by omega), r.rcell m hm 2 (by omega), r.rcell m hm 3 (by omega), r.rcell m hm 4 (by omega), r.rcell m hm 5 (by omega), r.rcell m hm 6 (by omega), r.rcell m hm 7 (by omega), r.code m h0⟩
/-- What is left of a band beyond a code. -/
def restB (x : List Int) (m : Nat) (b : Nat) : Int := clamp (wrap64 (wrap64 (loudB x b - bk m b) + 64) / 128) (-4) 3
def cutS (m : Int) (f : Nat → Int) (k : Nat) : Nat → Int := fun i => if i = 0 then m else if i ≤ k then f (i - 1) else 0
theorem cutS_step (m : Int) (f : Nat → Int) (k : Nat) : up9 (cutS m f k) (1 + k) (f k) = cutS m f (k + 1) := by
  funext i
  unfold up9 cutS
  by_cases h1 : i = 1 + k
  · subst h1
    rw [if_pos rfl, if_neg (by omega), if_pos (by omega), show 1 + k - 1 = k by omega]
  · rw [if_neg h1]
    by_cases h0 : i = 0
    · rw [if_pos h0, if_pos h0]
    · rw [if_neg h0, if_neg h0]
      by_cases h2 : i ≤ k
      · rw [if_pos h2, if_pos (by omega)]
      · rw [if_neg h2, if_neg (by omega)]
/-- The shape that is found. -/
def fsG (x : List Int) : Nat → Int := cutS ((bestN (loudB x) 16 : Nat) : Int) (restB x (bestN (loudB x) 16)) 8
set_option maxRecDepth 100000 in
set_option maxHeartbeats 4000000 in
theorem find_ok (A : Option Addr) (c : Nat) (x : List Int) (w : World) (hcap : x.length ≤ c) (hC : Kd.C (Kd.int .i32) w A x.length x) (hn : Nok (x.length : Int)) :
    Calls Try.prog 67 #[.slice A x.length c] w fun e w' => e = .returned (.tuple #[sval (fsG x), .int .i64 0]) ∧ Below w.heap.size w w' := by
  have HA : Hid (Below w.heap.size w (w.alloc (.cells (row9 z8) 61))) := (Below.refl _ _).alloc (Nat.le_refl _) _
  have C := Lib.hid (loud_ok A c x (w.alloc (.cells (row9 z8) 61)) hcap (Kd.C_below hC HA.out) hn)
  clear hn hC
  go_enter Try.func67, Try.ntmps67
  go_wp2_with fail
  refine C.out.mono ?_
  rintro e w1 ⟨rfl, hb⟩
  have HB1 := Lib.hid hb
  clear hb C
  go_wp2_with fail
  refine (book_any _).mono ?_
  rintro e w2 ⟨rfl, hb⟩
  have HB2 := Lib.hid hb
  clear hb
  have hbs : bookA.size = 128 := by as_aux_lemma => kernel_rfl
  have hst : (storeCells ⟨w2.heap.size, 0, none⟩ bookA.toList 0).run Try.prog (w2.alloc (.cells Try.zeroCells113 113)) = .ok () (w2.alloc (.cells bookA 113)) := run_storeCells_new w2 113 Try.zeroCells113 bookA (by as_aux_lemma => kernel_rfl) (by as_aux_lemma => kernel_rfl) (by as_aux_lemma => kernel_rfl)
  have h0 : Hid (FiRel w1.heap.size w2.heap.size (w2.heap.size + 1) x w ((w2.alloc (.cells bookA 113)).alloc (.cells (row9 z8) 61)) z8) := by
    have z1 := HB1.out.size
    have z2 := HB2.out.size
    simp at z1 z2
    have b2 : Below (w1.alloc (.cells (rowE (loudB x)) 57)).heap.size (w1.alloc (.cells (rowE (loudB x)) 57)) w2 := below_of_grown HB2.out
    have b3 : Below w2.heap.size w2 ((w2.alloc (.cells bookA 113)).alloc (.cells (row9 z8) 61)) := ((Below.refl _ _).alloc (Nat.le_refl _) _).alloc (by simp) _
    have e1 : w1.heap[w.heap.size]? = some (.cells (row9 z8) 61 (0, 0)) := blk_below (heap_alloc_new w _) HB1.out
    refine ⟨blk_below (blk_below (blk_below e1 ((Below.refl _ _).alloc (Nat.le_refl _) _)) b2) b3, blk_below (blk_below (heap_alloc_new w1 _) b2) b3, blk_below (heap_alloc_new w2 _) ((Below.refl _ _).alloc (Nat.le_refl _) _), ?_, ⟨by omega, by omega, by omega⟩, ?_⟩
    · have := heap_alloc_new (w2.alloc (.cells bookA 113)) (.cells (row9 z8) 61)
      simpa using this
    · have c1 := below_then HA.out (by simp) HB1.out
      have c2 : Below w.heap.size w (w1.alloc (.cells (rowE (loudB x)) 57)) := c1.alloc c1.size _
      have c3 := below_then c2 (by simp; omega) b2
      exact below_then c3 (by omega) b3
  clear HA HB1 HB2
  go_wp2_with fail
  clear hbs hst
  go_loopg [21] 16 (fun gk s21 wr => ∃ (c : Nat) (g : Nat → Int), c ≤ 16 ∧ gk = 16 - c ∧ s21 = .int .i64 c ∧ Hid (g 0 = ((bestN (loudB x) c : Nat) : Int) ∧ ∀ i, i ≠ 0 → g i = 0) ∧ Hid (FiRel w1.heap.size w2.heap.size (w2.heap.size + 1) x w wr g))
  case atStart => exact ⟨0, z8, by omega, rfl, rfl, ⟨rfl, fun _ _ => rfl⟩, h0⟩
  case round =>
    clear h0
    obtain ⟨c, g, hc, rfl, rfl, hgz, hM⟩ := hrel
    have hg := Lib.hid hgz.out.1
    have hz := Lib.hid hgz.out.2
    clear hgz
    have hm := bestN_lt (loudB x) c hc
    generalize hmv : bestN (loudB x) c = m at hg hm
    have Hmv := Lib.hid hmv
    clear hmv
    by_cases hlt : c < 16
    · have c1 : (c : Int) < 16 := by omega
      have c0 : (0 : Int) ≤ (c : Int) := by omega
      have m1 : (m : Int) < 16 := by omega
      have m0 : (0 : Int) ≤ (m : Int) := by omega
      have hh := Lib.hid (hM.out.held c m hlt hm hg.out)
      have hd : Hid (bestN (loudB x) (c + 1) = if distN (loudB x) (bk c) 8 < distN (loudB x) (bk m) 8 then c else m) := by
        show _ = _
        rw [← Hmv.out]; rfl
      go_wp2_with fail
      go_region_held3 (fun w' => w'.cell? ⟨w1.heap.size, 0, none⟩ = some (.int .i64 (loudB x 0)) ∧ w'.cell? ⟨w1.heap.size, 1, none⟩ = some (.int .i64 (loudB x 1)) ∧ w'.cell? ⟨w1.heap.size, 2, none⟩ = some (.int .i64 (loudB x 2)) ∧ w'.cell? ⟨w1.heap.size, 3, none⟩ = some (.int .i64 (loudB x 3)) ∧ w'.cell? ⟨w1.heap.size, 4, none⟩ = some (.int .i64 (loudB x 4)) ∧ w'.cell? ⟨w1.heap.size, 5, none⟩ = some (.int .i64 (loudB x 5)) ∧ w'.cell? ⟨w1.heap.size, 6, none⟩ = some (.int .i64 (loudB x 6)) ∧ w'.cell? ⟨w1.heap.size, 7, none⟩ = some (.int .i64 (loudB x 7)) ∧ w'.cell? ⟨w2.heap.size, c * 8, none⟩ = some (.int .i64 (bk c 0)) ∧ w'.cell? ⟨w2.heap.size, c * 8 + 1, none⟩ = some (.int .i64 (bk c 1)) ∧ w'.cell? ⟨w2.heap.size, c * 8 + 2, none⟩ = some (.int .i64 (bk c 2)) ∧ w'.cell? ⟨w2.heap.size, c * 8 + 3, none⟩ = some (.int .i64 (bk c 3)) ∧ w'.cell? ⟨w2.heap.size, c * 8 + 4, none⟩ = some (.int .i64 (bk c 4)) ∧ w'.cell? ⟨w2.heap.size, c * 8 + 5, none⟩ = some (.int .i64 (bk c 5)) ∧ w'.cell? ⟨w2.heap.size, c * 8 + 6, none⟩ = some (.int .i64 (bk c 6)) ∧ w'.cell? ⟨w2.heap.size, c * 8 + 7, none⟩ = some (.int .i64 (bk c 7)) ∧ w'.cell? ⟨w2.heap.size, m * 8, none⟩ = some (.int .i64 (bk m 0)) ∧ w'.cell? ⟨w2.heap.size, m * 8 + 1, none⟩ = some (.int .i64 (bk m 1)) ∧ w'.cell? ⟨w2.heap.size, m * 8 + 2, none⟩ = some (.int .i64 (bk m 2)) ∧ w'.cell? ⟨w2.heap.size, m * 8 + 3, none⟩ = some (.int .i64 (bk m 3)) ∧ w'.cell? ⟨w2.heap.size, m * 8 + 4, none⟩ = some (.int .i64 (bk m 4)) ∧ w'.cell? ⟨w2.heap.size, m * 8 + 5, none⟩ = some (.int .i64 (bk m 5)) ∧ w'.cell? ⟨w2.heap.size, m * 8 + 6, none⟩ = some (.int .i64 (bk m 6)) ∧ w'.cell? ⟨w2.heap.size, m * 8 + 7, none⟩ = some (.int .i64 (bk m 7)) ∧ w'.cell? ⟨w2.heap.size + 1, 0, none⟩ = some (.int .i64 (m : Int)))
        (first | exact hHeld | exact hh.out | exact hM8.out.held c m hlt hm hg.out | exact hM7.out.held c m hlt hm hg.out)
        ((go_at_call 95; refine (dist_any (loudB x) _ _).mono ?_; rintro e w4 ⟨rfl, hb4⟩; (first | (have hM8 := Lib.hid (hM7.out.under hb4)) | (have hM7 := Lib.hid ((hM.out.drew 1).under hb4))); clear hb4))
      clear hh hM7
      have s0 := hM8.out.scell 0 (by omega)
      have s1 := blk_frozen hM8.out.shp 0
      generalize distN (loudB x) (bk c) 8 = da at hd ⊢
      generalize distN (loudB x) (bk m) 8 = db at hd ⊢
      by_cases hlt2 : da < db
      · have hd2 : decide (da < db) = true := by simpa using hlt2
        have hM9 := Lib.hid (hM8.out.put 0 (c : Int) (by omega))
        have hd3 : Hid (bestN (loudB x) (c + 1) = c) := by show _ = _; rw [hd.out, if_pos hlt2]
        go_wp2
        go_roundg (16 - (c + 1))
        case measure => omega
        case rel => exact ⟨c + 1, _, by omega, rfl, by push_cast; rfl, ⟨by show up9 g 0 (c : Int) 0 = _; rw [hd3.out]; rfl, fun i hi => by show up9 g 0 (c : Int) i = 0; unfold up9; rw [if_neg hi]; exact hz.out i hi⟩, hM9.out⟩
      · have hd2 : decide (da < db) = false := by simpa using hlt2
        have hd3 : Hid (bestN (loudB x) (c + 1) = m) := by show _ = _; rw [hd.out, if_neg hlt2]
        go_wp2
        go_roundg (16 - (c + 1))
        case measure => omega
        case rel => exact ⟨c + 1, g, by omega, rfl, by push_cast; rfl, ⟨by show g 0 = _; rw [hg.out, hd3.out], hz.out⟩, hM8.out⟩
    · obtain rfl : c = 16 := by omega
      have m1 : (m : Int) < 16 := by omega
      have m0 : (0 : Int) ≤ (m : Int) := by omega
      have hs0 : Hid (FiRel w1.heap.size w2.heap.size (w2.heap.size + 1) x w wr (cutS (m : Int) (restB x m) 0)) := by
        have e : g = cutS (m : Int) (restB x m) 0 := by
          funext i
          unfold cutS
          by_cases hi : i = 0
          · rw [if_pos hi, hi, hg.out]
          · rw [if_neg hi, if_neg (by omega), hz.out i hi]
        rw [← e]; exact hM.out
      have k0 := hM.out.code m hg.out
      have e0 : wr.cell? ⟨w2.heap.size, m * 8, none⟩ = some (.int .i64 (bk m 0)) := hM.out.rcell m hm 0 (by omega)
      have e1 := hM.out.rcell m hm 1 (by omega)
      have e2 := hM.out.rcell m hm 2 (by omega)
      have e3 := hM.out.rcell m hm 3 (by omega)
      have e4 := hM.out.rcell m hm 4 (by omega)
      have e5 := hM.out.rcell m hm 5 (by omega)
      have e6 := hM.out.rcell m hm 6 (by omega)
      have e7 := hM.out.rcell m hm 7 (by omega)
      go_wp2_with fail
      clear e0 e1 e2 e3 e4 e5 e6 e7 k0
      go_loopg [43] 8 (fun gk s43 wr => ∃ k : Nat, k ≤ 8 ∧ gk = 8 - k ∧ s43 = .int .i64 k ∧ Hid (FiRel w1.heap.size w2.heap.size (w2.heap.size + 1) x w wr (cutS (m : Int) (restB x m) k)))
      case atStart => exact ⟨0, by omega, rfl, rfl, hs0⟩
      case round =>
        clear hs0
        obtain ⟨k, hk, rfl, rfl, hM2⟩ := hrel
        by_cases hlt3 : k < 8
        · have c1 : (k : Int) < 8 := by omega
          have c0 : (0 : Int) ≤ (k : Int) := by omega
          have q := idxE (bk m) k hlt3
          have d0 := hM2.out.dcell k hlt3
          have s0 : wr.cell? ⟨w2.heap.size + 1, 1 + k, none⟩ = _ := hM2.out.scell (1 + k) (by omega)
          have s1 := blk_frozen hM2.out.shp (1 + k)
          have hM4 := Lib.hid (hM2.out.put (1 + k) (restB x m k) (by omega))
          have hv : Hid (restB x m k = clamp (wrap64 (wrap64 (loudB x k - bk m k) + 64) / 128) (-4) 3) := rfl
          rw [cutS_step] at hM4
          generalize hrv : restB x m k = rv at hv hM4
          have Hrv := Lib.hid hrv
          clear hrv
          go_wp2_with fail
          refine (clip_any _ _ _ _).mono ?_
          rintro e w5 ⟨rfl, rfl⟩
          rw [← hv.out]
          go_wp2
          go_roundg (8 - (k + 1))
          case measure => omega
          case rel => exact ⟨k + 1, by omega, rfl, by push_cast; rfl, hM4.out⟩
        · obtain rfl : k = 8 := by omega
          have hG : Hid (fsG x = cutS (m : Int) (restB x m) 8) := by show _ = _; unfold fsG; rw [Hmv.out]
          rw [← hG.out] at hM2
          generalize hGx : fsG x = G at hM2 ⊢
          have HGx := Lib.hid hGx
          clear hGx
          have hM3 := hM2.out
          have d0 : wr.cell? ⟨w2.heap.size + 1, 0, none⟩ = some (.int .i64 (G 0)) := hM3.scell 0 (by omega)
          have d1 : wr.cell? ⟨w2.heap.size + 1, 1, none⟩ = some (.int .i64 (G 1)) := hM3.scell 1 (by omega)
          have d2 : wr.cell? ⟨w2.heap.size + 1, 2, none⟩ = some (.int .i64 (G 2)) := hM3.scell 2 (by omega)
          have d3 : wr.cell? ⟨w2.heap.size + 1, 3, none⟩ = some (.int .i64 (G 3)) := hM3.scell 3 (by omega)
          have d4 : wr.cell? ⟨w2.heap.size + 1, 4, none⟩ = some (.int .i64 (G 4)) := hM3.scell 4 (by omega)
          have d5 : wr.cell? ⟨w2.heap.size + 1, 5, none⟩ = some (.int .i64 (G 5)) := hM3.scell 5 (by omega)
          have d6 : wr.cell? ⟨w2.heap.size + 1, 6, none⟩ = some (.int .i64 (G 6)) := hM3.scell 6 (by omega)
          have d7 : wr.cell? ⟨w2.heap.size + 1, 7, none⟩ = some (.int .i64 (G 7)) := hM3.scell 7 (by omega)
          have d8 : wr.cell? ⟨w2.heap.size + 1, 8, none⟩ = some (.int .i64 (G 8)) := hM3.scell 8 (by omega)
          have o0 : wr.cell? ⟨w.heap.size, 0, none⟩ = some (.int .i64 0) := blk_cell hM3.res 0
          have f0 := blk_frozen hM3.res 0
          have o1 : wr.cell? ⟨w.heap.size, 1, none⟩ = some (.int .i64 0) := blk_cell hM3.res 1
          have f1 := blk_frozen hM3.res 1
          have o2 : wr.cell? ⟨w.heap.size, 2, none⟩ = some (.int .i64 0) := blk_cell hM3.res 2
          have f2 := blk_frozen hM3.res 2
          have o3 : wr.cell? ⟨w.heap.size, 3, none⟩ = some (.int .i64 0) := blk_cell hM3.res 3
          have f3 := blk_frozen hM3.res 3
          have o4 : wr.cell? ⟨w.heap.size, 4, none⟩ = some (.int .i64 0) := blk_cell hM3.res 4
          have f4 := blk_frozen hM3.res 4
          have o5 : wr.cell? ⟨w.heap.size, 5, none⟩ = some (.int .i64 0) := blk_cell hM3.res 5
          have f5 := blk_frozen hM3.res 5
          have o6 : wr.cell? ⟨w.heap.size, 6, none⟩ = some (.int .i64 0) := blk_cell hM3.res 6
          have f6 := blk_frozen hM3.res 6
          have o7 : wr.cell? ⟨w.heap.size, 7, none⟩ = some (.int .i64 0) := blk_cell hM3.res 7
          have f7 := blk_frozen hM3.res 7
          have o8 : wr.cell? ⟨w.heap.size, 8, none⟩ = some (.int .i64 0) := blk_cell hM3.res 8
          have f8 := blk_frozen hM3.res 8
          have hfin : Hid ((((((((((wr.setCell ⟨w.heap.size, 0, none⟩ (.int .i64 (G 0))).setCell ⟨w.heap.size, 1, none⟩ (.int .i64 (G 1))).setCell ⟨w.heap.size, 2, none⟩ (.int .i64 (G 2))).setCell ⟨w.heap.size, 3, none⟩ (.int .i64 (G 3))).setCell ⟨w.heap.size, 4, none⟩ (.int .i64 (G 4))).setCell ⟨w.heap.size, 5, none⟩ (.int .i64 (G 5))).setCell ⟨w.heap.size, 6, none⟩ (.int .i64 (G 6))).setCell ⟨w.heap.size, 7, none⟩ (.int .i64 (G 7))).setCell ⟨w.heap.size, 8, none⟩ (.int .i64 (G 8))).heap[w.heap.size]? = some (.cells (row9 G) 61 (0, 0))) := (blk_put (blk_put (blk_put (blk_put (blk_put (blk_put (blk_put (blk_put (blk_put hM3.res 0 _ rfl) 1 _ rfl) 2 _ rfl) 3 _ rfl) 4 _ rfl) 5 _ rfl) 6 _ rfl) 7 _ rfl) 8 _ rfl)
          have hbel : Hid (Below w.heap.size w (((((((((wr.setCell ⟨w.heap.size, 0, none⟩ (.int .i64 (G 0))).setCell ⟨w.heap.size, 1, none⟩ (.int .i64 (G 1))).setCell ⟨w.heap.size, 2, none⟩ (.int .i64 (G 2))).setCell ⟨w.heap.size, 3, none⟩ (.int .i64 (G 3))).setCell ⟨w.heap.size, 4, none⟩ (.int .i64 (G 4))).setCell ⟨w.heap.size, 5, none⟩ (.int .i64 (G 5))).setCell ⟨w.heap.size, 6, none⟩ (.int .i64 (G 6))).setCell ⟨w.heap.size, 7, none⟩ (.int .i64 (G 7))).setCell ⟨w.heap.size, 8, none⟩ (.int .i64 (G 8)))) := (((((((((hM3.below.setCell (Nat.le_refl _) _).setCell (Nat.le_refl _) _).setCell (Nat.le_refl _) _).setCell (Nat.le_refl _) _).setCell (Nat.le_refl _) _).setCell (Nat.le_refl _) _).setCell (Nat.le_refl _) _).setCell (Nat.le_refl _) _).setCell (Nat.le_refl _) _)
          clear hM3
          go_wp2
          generalize (((((((((wr.setCell ⟨w.heap.size, 0, none⟩ (.int .i64 (G 0))).setCell ⟨w.heap.size, 1, none⟩ (.int .i64 (G 1))).setCell ⟨w.heap.size, 2, none⟩ (.int .i64 (G 2))).setCell ⟨w.heap.size, 3, none⟩ (.int .i64 (G 3))).setCell ⟨w.heap.size, 4, none⟩ (.int .i64 (G 4))).setCell ⟨w.heap.size, 5, none⟩ (.int .i64 (G 5))).setCell ⟨w.heap.size, 6, none⟩ (.int .i64 (G 6))).setCell ⟨w.heap.size, 7, none⟩ (.int .i64 (G 7))).setCell ⟨w.heap.size, 8, none⟩ (.int .i64 (G 8))) = W at hfin hbel ⊢
          exact bodyPost_ret (v := .tuple #[sval G, .int .i64 0]) (results_list (rs := [.cell 2 61, .tmp 3]) rfl (by simp) (.cell w.heap.size 61 _ (0, 0) _ rfl hfin.out Try.underlying61 rfl (by kernel_rfl) (.tmp .nil))) rfl ⟨by rw [HGx.out], hbel.out⟩
end Go.Proofs.YtojlgjdebokelabH

namespace Go.Proofs.YtojlgjdebokelabH
open Go.RowKit Go.Proofs.YtojlgjdebokelabW.PrintWords Go.Proofs.YtojlgjdebokelabW.PrintMore Go.Proofs.YtojlgjdebokelabW
attribute [local go_sem ↓] Go.wp_at_zero Go.wp_at_succ
open Go.Proofs.Ytojlgjdebokelab.PLib7
set_option maxRecDepth 100000 in
set_option maxHeartbeats 4000000 in
theorem find_no (A : Option Addr) (n c : Nat) (w : World) (hn : ¬ Nok (n : Int)) :
    Calls Try.prog 67 #[.slice A n c] w fun e w' => e = .returned (.tuple #[sval z8, .int .i64 1]) ∧ Below w.heap.size w w' := by
  have HA : Hid (Below w.heap.size w (w.alloc (.cells (row9 z8) 61))) := (Below.refl _ _).alloc (Nat.le_refl _) _
  have C := Lib.hid (loud_no A n c (w.alloc (.cells (row9 z8) 61)) hn)
  clear hn
  go_enter Try.func67, Try.ntmps67
  go_wp2_with fail
  refine C.out.mono ?_
  rintro e w1 ⟨rfl, hb⟩
  have HB1 := Lib.hid hb
  clear hb C
  have e1 : Hid (w1.heap[w.heap.size]? = some (.cells (row9 z8) 61 (0, 0))) := blk_below (heap_alloc_new w _) HB1.out
  have e3 : Hid ((w1.alloc (.cells (rowE z8) 57)).heap[w.heap.size]? = some (.cells (row9 z8) 61 (0, 0))) := blk_below e1.out ((Below.refl _ _).alloc (Nat.le_refl _) _)
  have hbw : Hid (Below w.heap.size w (w1.alloc (.cells (rowE z8) 57))) := by
    have c1 := below_then HA.out (by simp) HB1.out
    exact c1.alloc c1.size _
  have o0 : (w1.alloc (.cells (rowE z8) 57)).cell? ⟨w.heap.size, 0, none⟩ = some (.int .i64 0) := blk_cell e3.out 0
  have f0 := blk_frozen e3.out 0
  have o1 : (w1.alloc (.cells (rowE z8) 57)).cell? ⟨w.heap.size, 1, none⟩ = some (.int .i64 0) := blk_cell e3.out 1
  have f1 := blk_frozen e3.out 1
  have o2 : (w1.alloc (.cells (rowE z8) 57)).cell? ⟨w.heap.size, 2, none⟩ = some (.int .i64 0) := blk_cell e3.out 2
  have f2 := blk_frozen e3.out 2
  have o3 : (w1.alloc (.cells (rowE z8) 57)).cell? ⟨w.heap.size, 3, none⟩ = some (.int .i64 0) := blk_cell e3.out 3
  have f3 := blk_frozen e3.out 3
  have o4 : (w1.alloc (.cells (rowE z8) 57)).cell? ⟨w.heap.size, 4, none⟩ = some (.int .i64 0) := blk_cell e3.out 4
  have f4 := blk_frozen e3.out 4
  have o5 : (w1.alloc (.cells (rowE z8) 57)).cell? ⟨w.heap.size, 5, none⟩ = some (.int .i64 0) := blk_cell e3.out 5
  have f5 := blk_frozen e3.out 5
  have o6 : (w1.alloc (.cells (rowE z8) 57)).cell? ⟨w.heap.size, 6, none⟩ = some (.int .i64 0) := blk_cell e3.out 6
  have f6 := blk_frozen e3.out 6
  have o7 : (w1.alloc (.cells (rowE z8) 57)).cell? ⟨w.heap.size, 7, none⟩ = some (.int .i64 0) := blk_cell e3.out 7
  have f7 := blk_frozen e3.out 7
  have o8 : (w1.alloc (.cells (rowE z8) 57)).cell? ⟨w.heap.size, 8, none⟩ = some (.int .i64 0) := blk_cell e3.out 8
  have f8 := blk_frozen e3.out 8
  have hfin : Hid (((((((((((w1.alloc (.cells (rowE z8) 57)).setCell ⟨w.heap.size, 0, none⟩ (.int .i64 0)).setCell ⟨w.heap.size, 1, none⟩ (.int .i64 0)).setCell ⟨w.heap.size, 2, none⟩ (.int .i64 0)).setCell ⟨w.heap.size, 3, none⟩ (.int .i64 0)).setCell ⟨w.heap.size, 4, none⟩ (.int .i64 0)).setCell ⟨w.heap.size, 5, none⟩ (.int .i64 0)).setCell ⟨w.heap.size, 6, none⟩ (.int .i64 0)).setCell ⟨w.heap.size, 7, none⟩ (.int .i64 0)).setCell ⟨w.heap.size, 8, none⟩ (.int .i64 0)).heap[w.heap.size]? = some (.cells (row9 z8) 61 (0, 0))) := (blk_put (blk_put (blk_put (blk_put (blk_put (blk_put (blk_put (blk_put (blk_put e3.out 0 _ rfl) 1 _ rfl) 2 _ rfl) 3 _ rfl) 4 _ rfl) 5 _ rfl) 6 _ rfl) 7 _ rfl) 8 _ rfl)
  have hbel : Hid (Below w.heap.size w ((((((((((w1.alloc (.cells (rowE z8) 57)).setCell ⟨w.heap.size, 0, none⟩ (.int .i64 0)).setCell ⟨w.heap.size, 1, none⟩ (.int .i64 0)).setCell ⟨w.heap.size, 2, none⟩ (.int .i64 0)).setCell ⟨w.heap.size, 3, none⟩ (.int .i64 0)).setCell ⟨w.heap.size, 4, none⟩ (.int .i64 0)).setCell ⟨w.heap.size, 5, none⟩ (.int .i64 0)).setCell ⟨w.heap.size, 6, none⟩ (.int .i64 0)).setCell ⟨w.heap.size, 7, none⟩ (.int .i64 0)).setCell ⟨w.heap.size, 8, none⟩ (.int .i64 0))) := (((((((((hbw.out.setCell (Nat.le_refl _) _).setCell (Nat.le_refl _) _).setCell (Nat.le_refl _) _).setCell (Nat.le_refl _) _).setCell (Nat.le_refl _) _).setCell (Nat.le_refl _) _).setCell (Nat.le_refl _) _).setCell (Nat.le_refl _) _).setCell (Nat.le_refl _) _)
  go_wp2
  generalize ((((((((((w1.alloc (.cells (rowE z8) 57)).setCell ⟨w.heap.size, 0, none⟩ (.int .i64 0)).setCell ⟨w.heap.size, 1, none⟩ (.int .i64 0)).setCell ⟨w.heap.size, 2, none⟩ (.int .i64 0)).setCell ⟨w.heap.size, 3, none⟩ (.int .i64 0)).setCell ⟨w.heap.size, 4, none⟩ (.int .i64 0)).setCell ⟨w.heap.size, 5, none⟩ (.int .i64 0)).setCell ⟨w.heap.size, 6, none⟩ (.int .i64 0)).setCell ⟨w.heap.size, 7, none⟩ (.int .i64 0)).setCell ⟨w.heap.size, 8, none⟩ (.int .i64 0)) = W at hfin hbel ⊢
  exact bodyPost_ret (v := .tuple #[sval z8, .int .i64 1]) (results_list (rs := [.cell 2 61, .tmp 3]) rfl (by simp) (.cell w.heap.size 61 _ (0, 0) _ rfl hfin.out Try.underlying61 rfl (by kernel_rfl) (.tmp .nil))) rfl ⟨rfl, hbel.out⟩
def x40 : List Int := List.replicate 40 8
theorem fs40 : row9 (fsG x40) = row9 z8 := by
  have h : ∀ i < 9, fsG x40 i = 0 := by decide +kernel
  simp [row9, h, z8]
end Go.Proofs.YtojlgjdebokelabH

namespace Go.Proofs.YtojlgjdebokelabH
open Go.RowKit Go.Proofs.YtojlgjdebokelabW.PrintWords Go.Proofs.YtojlgjdebokelabW.PrintMore Go.Proofs.YtojlgjdebokelabW
attribute [local go_sem ↓] Go.wp_at_zero Go.wp_at_succ
open Go.Proofs.Ytojlgjdebokelab.PLib7
theorem x40_len : x40.length = 40 := rfl
theorem x40_rd (k : Nat) (h : k < 40) : rd x40 (k : Int) = 8 := by
  unfold rd x40
  rw [Int.toNat_natCast, List.getD_eq_getElem?_getD, List.getElem?_replicate, if_pos h]
  rfl
theorem x40_I (v : Int) (h : v ∈ x40) : I32 v := by
  unfold x40 at h
  rw [List.mem_replicate] at h
  rw [h.2]; unfold I32; omega
structure AsRel (w wr : World) (ys : List Int) : Prop where
  row : Kd.R (Kd.int .i32) 21 wr w.heap.size (fun k => k = w.heap.size) (.slice (some ⟨w.heap.size, 0, none⟩) 40 40) ys
  below : Below w.heap.size w wr
theorem AsRel.put {w wr : World} {ys : List Int} (h : AsRel w wr ys) (j : Nat) (x : Int) : AsRel w (wr.setCell ⟨w.heap.size, j, none⟩ (.int .i32 x)) (ys.set j x) := by
  have hp := Kd.R_putn h.row (j : Int) x
  rw [Int.toNat_natCast] at hp
  exact ⟨hp, h.below.setCell (Nat.le_refl _) _⟩
theorem AsRel.cell {w wr : World} {ys : List Int} (h : AsRel w wr ys) (j : Nat) (hj : j < 40) : wr.cell? ⟨w.heap.size, j, none⟩ = some (.int .i32 (rd ys (j : Int))) ∧ wr.frozen? ⟨w.heap.size, j, none⟩ = false := by
  have hR := Kd.R_celln (0 : Int) h.row (j : Int) (by omega) (by omega)
  rw [Int.toNat_natCast] at hR
  exact hR
set_option maxRecDepth 100000 in
set_option maxHeartbeats 4000000 in
theorem alive16_any (w : World) : Calls Try.prog 23 #[] w fun e w' => e = .returned (.bool true) ∧ Below w.heap.size w w' := by
  have hmk : ∀ W : World, (Instr.makeSlice 25 (.int .i64 40) (.int .i64 40)).run Try.prog W = .ok (.slice (some ⟨W.heap.size, 0, none⟩) 40 40) (W.alloc (.cells (madeCells #[.int .i32 0] 40) 21)) := fun W => print_make 25 21 .i32 4 Try.underlying25 clone32_info (by decide) 40 (by omega) W
  have h0 : Hid (AsRel w (w.alloc (.cells (madeCells #[.int .i32 0] 40) 21)) (fv x40 0)) := by
    refine ⟨?_, (Below.refl _ _).alloc (Nat.le_refl _) _⟩
    rw [fv_zero, x40_len]
    exact R_made w w.heap.size 21 .i32 (Nat.le_refl _) 40 (by omega)
  have heq : ∀ W, (Op.equalIn 9999 57 (.agg #[.int .i64 0, .int .i64 0, .int .i64 0, .int .i64 0, .int .i64 0, .int .i64 0, .int .i64 0, .int .i64 0]) (.agg #[.int .i64 0, .int .i64 0, .int .i64 0, .int .i64 0, .int .i64 0, .int .i64 0, .int .i64 0, .int .i64 0])).run Try.prog W = .ok true W := fun W => by kernel_rfl
  go_enter Try.func23, Try.ntmps23
  go_wp2_with fail
  go_loopg [2] 40 (fun gk s2 wr => ∃ k : Nat, k ≤ 40 ∧ gk = 40 - k ∧ s2 = .int .i64 k ∧ Hid (AsRel w wr (fv x40 k)))
  case atStart => exact ⟨0, by omega, rfl, rfl, h0⟩
  case round =>
    clear h0
    obtain ⟨k, hk, rfl, rfl, hM⟩ := hrel
    by_cases hlt : k < 40
    · have c1 : (k : Int) < 40 := by omega
      have c0 : (0 : Int) ≤ (k : Int) := by omega
      obtain ⟨d0, d1⟩ := hM.out.cell k hlt
      have hM2 := Lib.hid (hM.out.put k 8)
      have hs := fv_step x40 k hlt
      rw [x40_rd k hlt] at hs
      rw [hs] at hM2
      clear hs
      go_wp2
      go_roundg (40 - (k + 1))
      case measure => omega
      case rel => exact ⟨k + 1, by omega, rfl, by push_cast; rfl, hM2.out⟩
    · obtain rfl : k = 40 := by omega
      have hfull : fv x40 40 = x40 := fv_all x40
      rw [hfull] at hM
      clear hfull
      obtain ⟨A', c', e, -, hC⟩ := Kd.R_reads hM.out.row
      have HB := Lib.hid hM.out.below
      cases e
      have F1 : Hid (Calls Try.prog 67 #[.slice (some ⟨w.heap.size, 0, none⟩) 40 40] wr fun e w' => e = .returned (.tuple #[sval z8, .int .i64 0]) ∧ Below wr.heap.size wr w') := by
        have := find_ok (some ⟨w.heap.size, 0, none⟩) 40 x40 wr (Nat.le_refl _) hC (.inl rfl)
        unfold sval at this
        rw [fs40] at this
        exact this
      have F2 : ∀ W, Hid (Calls Try.prog 67 #[.slice (some ⟨w.heap.size, 0, none⟩) 39 40] W fun e w' => e = .returned (.tuple #[sval z8, .int .i64 1]) ∧ Below W.heap.size W w') := fun W => Lib.hid (find_no _ 39 40 W (by decide))
      clear hC hM
      go_wp2_with fail
      refine F1.out.mono ?_
      rintro e w1 ⟨rfl, hb⟩
      replace HB := Lib.hid (below_then HB.out HB.out.size hb)
      clear hb F1
      go_wp2_with fail
      refine (F2 _).out.mono ?_
      rintro e w2 ⟨rfl, hb⟩
      have H1 : Hid (w2.heap[w1.heap.size]? = some (.cells (row9 z8) 61 (0, 0))) := blk_below (heap_alloc_new w1 _) hb
      have HB2 : Hid (Below w.heap.size w w2) := below_then (HB.out.alloc HB.out.size _) (by have := HB.out.size; simp; omega) hb
      clear hb F2
      have H3 : Hid ((w2.alloc (.cells (row9 z8) 61)).heap[w1.heap.size]? = some (.cells (row9 z8) 61 (0, 0))) := blk_below H1.out ((Below.refl _ _).alloc (Nat.le_refl _) _)
      have d0 : (w2.alloc (.cells (row9 z8) 61)).cell? ⟨w1.heap.size, 0, none⟩ = some (.int .i64 0) := blk_cell H3.out 0
      have d1 : (w2.alloc (.cells (row9 z8) 61)).cell? ⟨w1.heap.size, 1, none⟩ = some (.int .i64 0) := blk_cell H3.out 1
      have d2 : (w2.alloc (.cells (row9 z8) 61)).cell? ⟨w1.heap.size, 2, none⟩ = some (.int .i64 0) := blk_cell H3.out 2
      have d3 : (w2.alloc (.cells (row9 z8) 61)).cell? ⟨w1.heap.size, 3, none⟩ = some (.int .i64 0) := blk_cell H3.out 3
      have d4 : (w2.alloc (.cells (row9 z8) 61)).cell? ⟨w1.heap.size, 4, none⟩ = some (.int .i64 0) := blk_cell H3.out 4
      have d5 : (w2.alloc (.cells (row9 z8) 61)).cell? ⟨w1.heap.size, 5, none⟩ = some (.int .i64 0) := blk_cell H3.out 5
      have d6 : (w2.alloc (.cells (row9 z8) 61)).cell? ⟨w1.heap.size, 6, none⟩ = some (.int .i64 0) := blk_cell H3.out 6
      have d7 : (w2.alloc (.cells (row9 z8) 61)).cell? ⟨w1.heap.size, 7, none⟩ = some (.int .i64 0) := blk_cell H3.out 7
      have d8 : (w2.alloc (.cells (row9 z8) 61)).cell? ⟨w1.heap.size, 8, none⟩ = some (.int .i64 0) := blk_cell H3.out 8
      go_wp2_with fail
      go_ret
      exact ⟨rfl, HB2.out.alloc HB2.out.size _⟩
end Go.Proofs.YtojlgjdebokelabH

namespace Go.Proofs.YtojlgjdebokelabH
open Go.RowKit Go.Proofs.YtojlgjdebokelabW.PrintWords Go.Proofs.YtojlgjdebokelabW.PrintMore Go.Proofs.YtojlgjdebokelabW
attribute [local go_sem ↓] Go.wp_at_zero Go.wp_at_succ
section
open Go.Proofs.Ytojlgjdebokelab.PLib8
theorem same32_l0 (l : List Int) (hl : l.length ≤ 140737488351232) (d : Nat) : ∀ (k : Nat) (i : Int), 0 ≤ i → i ≤ l.length → (l.length : Int) - i = d → d < k → psalteryref08_Same32.l0 k l l i = some true := by
  induction d with
  | zero =>
    intro k i h0 h1 hd hk
    obtain ⟨k, rfl⟩ : ∃ m, k = m + 1 := ⟨k - 1, by omega⟩
    simp only [psalteryref08_Same32.l0]; rw [if_neg (by omega)]
  | succ d ih =>
    intro k i h0 h1 hd hk
    obtain ⟨k, rfl⟩ : ∃ m, k = m + 1 := ⟨k - 1, by omega⟩
    simp only [psalteryref08_Same32.l0]
    rw [if_pos (by omega), if_pos h0, if_pos (by omega), if_true, show wrap64 (i + 1) = i + 1 by unfold wrap64; omega]
    exact ih k (i + 1) (by omega) (by omega) (by omega) (by omega)
theorem same32_any (A0 A1 : Option Addr) (c0 c1 : Nat) (l : List Int) (w : World) (h0 : Kd.C (Kd.int .i32) w A0 l.length l) (hc0 : l.length ≤ c0) (h1 : Kd.C (Kd.int .i32) w A1 l.length l) (hc1 : l.length ≤ c1) (hl : l.length ≤ 140737488351232) :
    Calls Try.prog 12 #[.slice A0 l.length c0, .slice A1 l.length c1] w fun e w' => e = .returned (.bool true) ∧ Below w.heap.size w w' :=
  (psalteryref08_Same32.calls (l.length + 1) A0 c0 l A1 c1 l true w h0 hc0 h1 hc1 (by unfold psalteryref08_Same32.f; rw [if_pos rfl]; exact same32_l0 l hl l.length _ 0 (by omega) (by omega) (by omega) (by omega))).mono fun _ _ h => ⟨h.1, by obtain ⟨n, rfl⟩ := h.2.out; exact pw_below_drewN (Below.refl _ _) n⟩
end
open Go.Proofs.Ytojlgjdebokelab.PLib7
theorem R_C {α : Type} {d : Kd α} {e base c n : Nat} {ok : Nat → Prop} {w : World} {A : Option Addr} {xs : List α} (h : d.R e w base ok (.slice A n c) xs) : d.C w A xs.length xs := by
  obtain ⟨A', c', e, h1, h2⟩ := Kd.R_reads h
  injection e with e1 _ e2
  subst e1
  exact h2
theorem may_f (x : List Int) : psalteryref15_May.f x = some (decide (Nok (x.length : Int))) := by
  unfold psalteryref15_May.f psalteryref09_May.f Nok
  by_cases h1 : (x.length : Int) = 40
  · simp [h1]
  by_cases h2 : (x.length : Int) = 60
  · simp [h2]
  by_cases h3 : (x.length : Int) = 80
  · simp [h3]
  by_cases h4 : (x.length : Int) = 120
  · simp [h4]
  · simp only [if_neg h1, if_neg h2, if_neg h3, Option.bind_some]
    simp [h1, h2, h3, h4]
theorem may_any (A : Option Addr) (c : Nat) (x : List Int) (w : World) (hC : Kd.C (Kd.int .i32) w A x.length x) (hc : x.length ≤ c) :
    Calls Try.prog 30 #[.slice A x.length c] w fun e w' => e = .returned (.bool (decide (Nok (x.length : Int)))) ∧ Below w.heap.size w w' :=
  (psalteryref15_May.calls A c x _ w hC hc (may_f x)).mono fun e w' h => ⟨h.1, by obtain ⟨n, rfl⟩ := h.2.out; exact pw_below_drewN (Below.refl _ _) n⟩
structure L16 (g : Nat → Int) (w wr : World) (vl : Value) (ll : List Int) (va : Value) (a : List Int) (vb : Value) (b : List Int) : Prop where
  box : wr.heap[w.heap.size]? = some (.cells (row9 g) 59 (0, 0))
  rl : Kd.R (Kd.int .i32) 21 wr w.heap.size (fun _ => True) vl ll
  ra : Kd.R (Kd.int .i32) 21 wr w.heap.size (fun _ => True) va a
  rb : Kd.R (Kd.int .i32) 21 wr w.heap.size (fun _ => True) vb b
  below : Below w.heap.size w wr
theorem L16.under {g : Nat → Int} {w wr w1 : World} {vl : Value} {ll : List Int} {va : Value} {a : List Int} {vb : Value} {b : List Int} (h : L16 g w wr vl ll va a vb b) (hb : Below wr.heap.size wr w1) : L16 g w w1 vl ll va a vb b :=
  ⟨blk_below h.box hb, Kd.R_below h.rl hb, Kd.R_below h.ra hb, Kd.R_below h.rb hb, below_then h.below h.below.size hb⟩
theorem L16.drew {g : Nat → Int} {w wr : World} {vl : Value} {ll : List Int} {va : Value} {a : List Int} {vb : Value} {b : List Int} (h : L16 g w wr vl ll va a vb b) (n : Nat) : L16 g w (wr.drewN n) vl ll va a vb b :=
  ⟨blk_drewN h.box n, Kd.R_drewN h.rl n, Kd.R_drewN h.ra n, Kd.R_drewN h.rb n, pw_below_drewN h.below n⟩
theorem eunv_len (x : List Int) (g : Nat → Int) (sg : Int) : (eunv x g sg).1.length ≤ x.length := by
  unfold eunv; split
  · rw [turnL_len]; exact Nat.le_refl _
  · simp
set_option maxRecDepth 100000 in
theorem l16_far (A : Option Addr) (n c : Nat) (g : Nat → Int) (w : World) (hl : 300 < n) :
    Calls Try.prog 6 #[.slice A n c, sval g] w fun e w' => e = .returned (.bool true) ∧ Below w.heap.size w w' := by
  have h300 : (300 : Int) < (n : Int) := by omega
  have HB : Hid (Below w.heap.size w (w.alloc (.cells (row9 g) 59))) := (Below.refl _ _).alloc (Nat.le_refl _) _
  go_enter Try.func6, Try.ntmps6
  go_wp2_with (go_at_call 23; refine (alive16_any _).mono ?_; rintro e w1 ⟨rfl, hb⟩; (replace HB := Lib.hid (below_then HB.out (by simp) hb)); clear hb)
  go_ret
  exact ⟨rfl, HB.out⟩
set_option maxRecDepth 100000 in
set_option maxHeartbeats 4000000 in
theorem l16_bad (A : Option Addr) (c : Nat) (x : List Int) (g : Nat → Int) (hl : x.length ≤ 300) (hs : ¬ Sok g) (w : World) (hr : Kd.C (Kd.int .i32) w A x.length x) (hc : x.length ≤ c) (hx : ∀ v ∈ x, I32 v) :
    Calls Try.prog 6 #[.slice A x.length c, sval g] w fun e w' => e = .returned (.bool true) ∧ Below w.heap.size w w' := by
  have HDS : Hid (decide (Sok g) = false) := decide_eq_false hs
  have e1 : eunv x g (-1) = ([], 1) := if_neg (fun h => hs h.2)
  have e2 : eunv x g 1 = ([], 1) := if_neg (fun h => hs h.2)
  have E1 := Lib.hid e1
  have E2 := Lib.hid e2
  clear e1 e2
  have Hr := Lib.hid hr
  have Hx := Lib.hid hx
  have Hc := Lib.hid hc
  have HS := Lib.hid hs
  clear hr hx hc hs
  have HB : Hid (Below w.heap.size w (w.alloc (.cells (row9 g) 59))) := (Below.refl _ _).alloc (Nat.le_refl _) _
  have HF : Hid ((w.alloc (.cells (row9 g) 59)).heap[w.heap.size]? = some (.cells (row9 g) 59 (0, 0))) := heap_alloc_new w _
  have h300 : ¬ (300 : Int) < (x.length : Int) := by omega
  go_enter Try.func6, Try.ntmps6
  go_wp2_with fail
  refine (alive16_any _).mono ?_
  rintro e w1 ⟨rfl, hb⟩
  replace HF := Lib.hid (blk_below HF.out hb)
  replace HB := Lib.hid (below_then HB.out (by simp) hb)
  clear hb
  have d0 : w1.cell? ⟨w.heap.size, 0, none⟩ = some (.int .i64 (g 0)) := blk_cell HF.out 0
  have d1 : w1.cell? ⟨w.heap.size, 1, none⟩ = some (.int .i64 (g 1)) := blk_cell HF.out 1
  have d2 : w1.cell? ⟨w.heap.size, 2, none⟩ = some (.int .i64 (g 2)) := blk_cell HF.out 2
  have d3 : w1.cell? ⟨w.heap.size, 3, none⟩ = some (.int .i64 (g 3)) := blk_cell HF.out 3
  have d4 : w1.cell? ⟨w.heap.size, 4, none⟩ = some (.int .i64 (g 4)) := blk_cell HF.out 4
  have d5 : w1.cell? ⟨w.heap.size, 5, none⟩ = some (.int .i64 (g 5)) := blk_cell HF.out 5
  have d6 : w1.cell? ⟨w.heap.size, 6, none⟩ = some (.int .i64 (g 6)) := blk_cell HF.out 6
  have d7 : w1.cell? ⟨w.heap.size, 7, none⟩ = some (.int .i64 (g 7)) := blk_cell HF.out 7
  have d8 : w1.cell? ⟨w.heap.size, 8, none⟩ = some (.int .i64 (g 8)) := blk_cell HF.out 8
  go_wp2_with fail
  clear d0 d1 d2 d3 d4 d5 d6 d7 d8
  refine (says_bad g _ HS.out).mono ?_
  rintro e w2 ⟨rfl, hb⟩
  replace HF := Lib.hid (blk_below HF.out hb)
  have hR1 : Hid (Kd.R (Kd.int .i32) 21 w2 w.heap.size (fun _ => True) (.slice none 0 0) []) := Kd.R_nil _ _ _ _ _
  replace HB := Lib.hid (below_then HB.out HB.out.size hb)
  clear hb
  have d0 : w2.cell? ⟨w.heap.size, 0, none⟩ = some (.int .i64 (g 0)) := blk_cell HF.out 0
  have d1 : w2.cell? ⟨w.heap.size, 1, none⟩ = some (.int .i64 (g 1)) := blk_cell HF.out 1
  have d2 : w2.cell? ⟨w.heap.size, 2, none⟩ = some (.int .i64 (g 2)) := blk_cell HF.out 2
  have d3 : w2.cell? ⟨w.heap.size, 3, none⟩ = some (.int .i64 (g 3)) := blk_cell HF.out 3
  have d4 : w2.cell? ⟨w.heap.size, 4, none⟩ = some (.int .i64 (g 4)) := blk_cell HF.out 4
  have d5 : w2.cell? ⟨w.heap.size, 5, none⟩ = some (.int .i64 (g 5)) := blk_cell HF.out 5
  have d6 : w2.cell? ⟨w.heap.size, 6, none⟩ = some (.int .i64 (g 6)) := blk_cell HF.out 6
  have d7 : w2.cell? ⟨w.heap.size, 7, none⟩ = some (.int .i64 (g 7)) := blk_cell HF.out 7
  have d8 : w2.cell? ⟨w.heap.size, 8, none⟩ = some (.int .i64 (g 8)) := blk_cell HF.out 8
  go_wp2_with fail
  clear d0 d1 d2 d3 d4 d5 d6 d7 d8
  refine (even_any A c x g _ Hc.out (Kd.C_below Hr.out HB.out) Hx.out).mono ?_
  rintro e w3 ⟨v2, rfl, hR2, hb⟩
  replace HF := Lib.hid (blk_below HF.out hb)
  replace hR1 := Lib.hid (Kd.R_below hR1.out hb)
  replace hR2 := Lib.hid (Kd.R_lower hR2 HB.out.size)
  replace HB := Lib.hid (below_then HB.out HB.out.size hb)
  clear hb
  have d0 : w3.cell? ⟨w.heap.size, 0, none⟩ = some (.int .i64 (g 0)) := blk_cell HF.out 0
  have d1 : w3.cell? ⟨w.heap.size, 1, none⟩ = some (.int .i64 (g 1)) := blk_cell HF.out 1
  have d2 : w3.cell? ⟨w.heap.size, 2, none⟩ = some (.int .i64 (g 2)) := blk_cell HF.out 2
  have d3 : w3.cell? ⟨w.heap.size, 3, none⟩ = some (.int .i64 (g 3)) := blk_cell HF.out 3
  have d4 : w3.cell? ⟨w.heap.size, 4, none⟩ = some (.int .i64 (g 4)) := blk_cell HF.out 4
  have d5 : w3.cell? ⟨w.heap.size, 5, none⟩ = some (.int .i64 (g 5)) := blk_cell HF.out 5
  have d6 : w3.cell? ⟨w.heap.size, 6, none⟩ = some (.int .i64 (g 6)) := blk_cell HF.out 6
  have d7 : w3.cell? ⟨w.heap.size, 7, none⟩ = some (.int .i64 (g 7)) := blk_cell HF.out 7
  have d8 : w3.cell? ⟨w.heap.size, 8, none⟩ = some (.int .i64 (g 8)) := blk_cell HF.out 8
  go_wp2_with fail
  clear d0 d1 d2 d3 d4 d5 d6 d7 d8
  refine (uneven_any A c x g _ Hc.out (Kd.C_below Hr.out HB.out) Hx.out).mono ?_
  rintro e w4 ⟨v3, rfl, hR3, hb⟩
  replace HF := Lib.hid (blk_below HF.out hb)
  replace hR1 := Lib.hid (Kd.R_below hR1.out hb)
  replace hR2 := Lib.hid (Kd.R_below hR2.out hb)
  replace hR3 := Lib.hid (Kd.R_lower hR3 HB.out.size)
  replace HB := Lib.hid (below_then HB.out HB.out.size hb)
  clear hb
  have hM : Hid (L16 g w w4 (.slice none 0 0) [] v2 (eunv x g (-1)).1 v3 (eunv x g 1).1) := ⟨HF.out, hR1.out, hR2.out, hR3.out, HB.out⟩
  clear HF hR1 hR2 hR3 HB
  obtain ⟨A2, c2, rfl, hc2, -⟩ := Kd.R_reads hM.out.ra
  obtain ⟨A3, c3, rfl, hc3, -⟩ := Kd.R_reads hM.out.rb
  have Hc2 := Lib.hid hc2
  have Hc3 := Lib.hid hc3
  clear hc2 hc3
  have d0 : w4.cell? ⟨w.heap.size, 0, none⟩ = some (.int .i64 (g 0)) := blk_cell hM.out.box 0
  have d1 : w4.cell? ⟨w.heap.size, 1, none⟩ = some (.int .i64 (g 1)) := blk_cell hM.out.box 1
  have d2 : w4.cell? ⟨w.heap.size, 2, none⟩ = some (.int .i64 (g 2)) := blk_cell hM.out.box 2
  have d3 : w4.cell? ⟨w.heap.size, 3, none⟩ = some (.int .i64 (g 3)) := blk_cell hM.out.box 3
  have d4 : w4.cell? ⟨w.heap.size, 4, none⟩ = some (.int .i64 (g 4)) := blk_cell hM.out.box 4
  have d5 : w4.cell? ⟨w.heap.size, 5, none⟩ = some (.int .i64 (g 5)) := blk_cell hM.out.box 5
  have d6 : w4.cell? ⟨w.heap.size, 6, none⟩ = some (.int .i64 (g 6)) := blk_cell hM.out.box 6
  have d7 : w4.cell? ⟨w.heap.size, 7, none⟩ = some (.int .i64 (g 7)) := blk_cell hM.out.box 7
  have d8 : w4.cell? ⟨w.heap.size, 8, none⟩ = some (.int .i64 (g 8)) := blk_cell hM.out.box 8
  go_wp2_with fail
  clear d0 d1 d2 d3 d4 d5 d6 d7 d8
  refine (rscheck_any g _).mono ?_
  rw [HDS.out]
  rintro e w5 ⟨rfl, hb⟩
  replace hM := Lib.hid (hM.out.under (below_of_grown hb))
  clear hb
  have d0 : w5.cell? ⟨w.heap.size, 0, none⟩ = some (.int .i64 (g 0)) := blk_cell hM.out.box 0
  have d1 : w5.cell? ⟨w.heap.size, 1, none⟩ = some (.int .i64 (g 1)) := blk_cell hM.out.box 1
  have d2 : w5.cell? ⟨w.heap.size, 2, none⟩ = some (.int .i64 (g 2)) := blk_cell hM.out.box 2
  have d3 : w5.cell? ⟨w.heap.size, 3, none⟩ = some (.int .i64 (g 3)) := blk_cell hM.out.box 3
  have d4 : w5.cell? ⟨w.heap.size, 4, none⟩ = some (.int .i64 (g 4)) := blk_cell hM.out.box 4
  have d5 : w5.cell? ⟨w.heap.size, 5, none⟩ = some (.int .i64 (g 5)) := blk_cell hM.out.box 5
  have d6 : w5.cell? ⟨w.heap.size, 6, none⟩ = some (.int .i64 (g 6)) := blk_cell hM.out.box 6
  have d7 : w5.cell? ⟨w.heap.size, 7, none⟩ = some (.int .i64 (g 7)) := blk_cell hM.out.box 7
  have d8 : w5.cell? ⟨w.heap.size, 8, none⟩ = some (.int .i64 (g 8)) := blk_cell hM.out.box 8
  go_wp2_with fail
  clear d0 d1 d2 d3 d4 d5 d6 d7 d8
  refine (scheck_any g 1 _ (by rw [if_neg HS.out])).mono ?_
  rintro e w6 ⟨rfl, hb⟩
  replace hM := Lib.hid (hM.out.under (below_of_grown hb))
  clear hb
  simp only [E1.out, E2.out] at hM ⊢
  clear E1 E2
  go_wp2_with fail
  go_loopg [12] 0 (fun gk s12 wr => gk = 0 ∧ s12 = .int .i64 0 ∧ Hid (L16 g w wr (.slice none 0 0) [] (.slice A2 0 c2) [] (.slice A3 0 c3) []))
  case atStart => exact ⟨rfl, rfl, hM⟩
  case round =>
    clear hM
    obtain ⟨rfl, rfl, hM⟩ := hrel
    go_wp2
    go_ret
    exact ⟨rfl, hM.out.below⟩
set_option maxRecDepth 100000 in
set_option maxHeartbeats 4000000 in
theorem l16_ok (A : Option Addr) (c : Nat) (x : List Int) (g : Nat → Int) (hl : x.length ≤ 300) (hs : Sok g) (hn : Nok (x.length : Int)) (w : World) (hr : Kd.C (Kd.int .i32) w A x.length x) (hc : x.length ≤ c) (hx : ∀ v ∈ x, I32 v) :
    Calls Try.prog 6 #[.slice A x.length c, sval g] w fun e w' => e = .returned (.bool true) ∧ Below w.heap.size w w' := by
  have HDS : Hid (decide (Sok g) = true) := decide_eq_true hs
  have HN := Lib.hid hn
  clear hn
  have Hr := Lib.hid hr
  have Hx := Lib.hid hx
  have Hc := Lib.hid hc
  have HS := Lib.hid hs
  clear hr hx hc hs
  have HB : Hid (Below w.heap.size w (w.alloc (.cells (row9 g) 59))) := (Below.refl _ _).alloc (Nat.le_refl _) _
  have HF : Hid ((w.alloc (.cells (row9 g) 59)).heap[w.heap.size]? = some (.cells (row9 g) 59 (0, 0))) := heap_alloc_new w _
  have h300 : ¬ (300 : Int) < (x.length : Int) := by omega
  go_enter Try.func6, Try.ntmps6
  go_wp2_with fail
  refine (alive16_any _).mono ?_
  rintro e w1 ⟨rfl, hb⟩
  replace HF := Lib.hid (blk_below HF.out hb)
  replace HB := Lib.hid (below_then HB.out (by simp) hb)
  clear hb
  have d0 : w1.cell? ⟨w.heap.size, 0, none⟩ = some (.int .i64 (g 0)) := blk_cell HF.out 0
  have d1 : w1.cell? ⟨w.heap.size, 1, none⟩ = some (.int .i64 (g 1)) := blk_cell HF.out 1
  have d2 : w1.cell? ⟨w.heap.size, 2, none⟩ = some (.int .i64 (g 2)) := blk_cell HF.out 2
  have d3 : w1.cell? ⟨w.heap.size, 3, none⟩ = some (.int .i64 (g 3)) := blk_cell HF.out 3
  have d4 : w1.cell? ⟨w.heap.size, 4, none⟩ = some (.int .i64 (g 4)) := blk_cell HF.out 4
  have d5 : w1.cell? ⟨w.heap.size, 5, none⟩ = some (.int .i64 (g 5)) := blk_cell HF.out 5
  have d6 : w1.cell? ⟨w.heap.size, 6, none⟩ = some (.int .i64 (g 6)) := blk_cell HF.out 6
  have d7 : w1.cell? ⟨w.heap.size, 7, none⟩ = some (.int .i64 (g 7)) := blk_cell HF.out 7
  have d8 : w1.cell? ⟨w.heap.size, 8, none⟩ = some (.int .i64 (g 8)) := blk_cell HF.out 8
  go_wp2_with fail
  clear d0 d1 d2 d3 d4 d5 d6 d7 d8
  refine (says_any g _ HS.out).mono ?_
  rintro e w2 ⟨v1, rfl, hR1, hb⟩
  replace HF := Lib.hid (blk_below HF.out hb)
  replace hR1 := Lib.hid (Kd.R_lower hR1 HB.out.size)
  replace HB := Lib.hid (below_then HB.out HB.out.size hb)
  clear hb
  have d0 : w2.cell? ⟨w.heap.size, 0, none⟩ = some (.int .i64 (g 0)) := blk_cell HF.out 0
  have d1 : w2.cell? ⟨w.heap.size, 1, none⟩ = some (.int .i64 (g 1)) := blk_cell HF.out 1
  have d2 : w2.cell? ⟨w.heap.size, 2, none⟩ = some (.int .i64 (g 2)) := blk_cell HF.out 2
  have d3 : w2.cell? ⟨w.heap.size, 3, none⟩ = some (.int .i64 (g 3)) := blk_cell HF.out 3
  have d4 : w2.cell? ⟨w.heap.size, 4, none⟩ = some (.int .i64 (g 4)) := blk_cell HF.out 4
  have d5 : w2.cell? ⟨w.heap.size, 5, none⟩ = some (.int .i64 (g 5)) := blk_cell HF.out 5
  have d6 : w2.cell? ⟨w.heap.size, 6, none⟩ = some (.int .i64 (g 6)) := blk_cell HF.out 6
  have d7 : w2.cell? ⟨w.heap.size, 7, none⟩ = some (.int .i64 (g 7)) := blk_cell HF.out 7
  have d8 : w2.cell? ⟨w.heap.size, 8, none⟩ = some (.int .i64 (g 8)) := blk_cell HF.out 8
  go_wp2_with fail
  clear d0 d1 d2 d3 d4 d5 d6 d7 d8
  refine (even_any A c x g _ Hc.out (Kd.C_below Hr.out HB.out) Hx.out).mono ?_
  rintro e w3 ⟨v2, rfl, hR2, hb⟩
  replace HF := Lib.hid (blk_below HF.out hb)
  replace hR1 := Lib.hid (Kd.R_below hR1.out hb)
  replace hR2 := Lib.hid (Kd.R_lower hR2 HB.out.size)
  replace HB := Lib.hid (below_then HB.out HB.out.size hb)
  clear hb
  have d0 : w3.cell? ⟨w.heap.size, 0, none⟩ = some (.int .i64 (g 0)) := blk_cell HF.out 0
  have d1 : w3.cell? ⟨w.heap.size, 1, none⟩ = some (.int .i64 (g 1)) := blk_cell HF.out 1
  have d2 : w3.cell? ⟨w.heap.size, 2, none⟩ = some (.int .i64 (g 2)) := blk_cell HF.out 2
  have d3 : w3.cell? ⟨w.heap.size, 3, none⟩ = some (.int .i64 (g 3)) := blk_cell HF.out 3
  have d4 : w3.cell? ⟨w.heap.size, 4, none⟩ = some (.int .i64 (g 4)) := blk_cell HF.out 4
  have d5 : w3.cell? ⟨w.heap.size, 5, none⟩ = some (.int .i64 (g 5)) := blk_cell HF.out 5
  have d6 : w3.cell? ⟨w.heap.size, 6, none⟩ = some (.int .i64 (g 6)) := blk_cell HF.out 6
  have d7 : w3.cell? ⟨w.heap.size, 7, none⟩ = some (.int .i64 (g 7)) := blk_cell HF.out 7
  have d8 : w3.cell? ⟨w.heap.size, 8, none⟩ = some (.int .i64 (g 8)) := blk_cell HF.out 8
  go_wp2_with fail
  clear d0 d1 d2 d3 d4 d5 d6 d7 d8
  refine (uneven_any A c x g _ Hc.out (Kd.C_below Hr.out HB.out) Hx.out).mono ?_
  rintro e w4 ⟨v3, rfl, hR3, hb⟩
  replace HF := Lib.hid (blk_below HF.out hb)
  replace hR1 := Lib.hid (Kd.R_below hR1.out hb)
  replace hR2 := Lib.hid (Kd.R_below hR2.out hb)
  replace hR3 := Lib.hid (Kd.R_lower hR3 HB.out.size)
  replace HB := Lib.hid (below_then HB.out HB.out.size hb)
  clear hb
  have hM : Hid (L16 g w w4 v1 (saysL g) v2 (eunv x g (-1)).1 v3 (eunv x g 1).1) := ⟨HF.out, hR1.out, hR2.out, hR3.out, HB.out⟩
  clear HF hR1 hR2 hR3 HB
  obtain ⟨A1, c1, rfl, hc1, -⟩ := Kd.R_reads hM.out.rl
  rw [saysL_len] at hM hc1 ⊢
  obtain ⟨A2, c2, rfl, hc2, -⟩ := Kd.R_reads hM.out.ra
  obtain ⟨A3, c3, rfl, hc3, -⟩ := Kd.R_reads hM.out.rb
  have Hc2 := Lib.hid hc2
  have Hc3 := Lib.hid hc3
  clear hc2 hc3
  clear hc1
  have d0 : w4.cell? ⟨w.heap.size, 0, none⟩ = some (.int .i64 (g 0)) := blk_cell hM.out.box 0
  have d1 : w4.cell? ⟨w.heap.size, 1, none⟩ = some (.int .i64 (g 1)) := blk_cell hM.out.box 1
  have d2 : w4.cell? ⟨w.heap.size, 2, none⟩ = some (.int .i64 (g 2)) := blk_cell hM.out.box 2
  have d3 : w4.cell? ⟨w.heap.size, 3, none⟩ = some (.int .i64 (g 3)) := blk_cell hM.out.box 3
  have d4 : w4.cell? ⟨w.heap.size, 4, none⟩ = some (.int .i64 (g 4)) := blk_cell hM.out.box 4
  have d5 : w4.cell? ⟨w.heap.size, 5, none⟩ = some (.int .i64 (g 5)) := blk_cell hM.out.box 5
  have d6 : w4.cell? ⟨w.heap.size, 6, none⟩ = some (.int .i64 (g 6)) := blk_cell hM.out.box 6
  have d7 : w4.cell? ⟨w.heap.size, 7, none⟩ = some (.int .i64 (g 7)) := blk_cell hM.out.box 7
  have d8 : w4.cell? ⟨w.heap.size, 8, none⟩ = some (.int .i64 (g 8)) := blk_cell hM.out.box 8
  go_wp2_with fail
  clear d0 d1 d2 d3 d4 d5 d6 d7 d8
  refine (rscheck_any g _).mono ?_
  rw [HDS.out]
  rintro e w5 ⟨rfl, hb⟩
  replace hM := Lib.hid (hM.out.under (below_of_grown hb))
  clear hb
  have d0 : w5.cell? ⟨w.heap.size, 0, none⟩ = some (.int .i64 (g 0)) := blk_cell hM.out.box 0
  have d1 : w5.cell? ⟨w.heap.size, 1, none⟩ = some (.int .i64 (g 1)) := blk_cell hM.out.box 1
  have d2 : w5.cell? ⟨w.heap.size, 2, none⟩ = some (.int .i64 (g 2)) := blk_cell hM.out.box 2
  have d3 : w5.cell? ⟨w.heap.size, 3, none⟩ = some (.int .i64 (g 3)) := blk_cell hM.out.box 3
  have d4 : w5.cell? ⟨w.heap.size, 4, none⟩ = some (.int .i64 (g 4)) := blk_cell hM.out.box 4
  have d5 : w5.cell? ⟨w.heap.size, 5, none⟩ = some (.int .i64 (g 5)) := blk_cell hM.out.box 5
  have d6 : w5.cell? ⟨w.heap.size, 6, none⟩ = some (.int .i64 (g 6)) := blk_cell hM.out.box 6
  have d7 : w5.cell? ⟨w.heap.size, 7, none⟩ = some (.int .i64 (g 7)) := blk_cell hM.out.box 7
  have d8 : w5.cell? ⟨w.heap.size, 8, none⟩ = some (.int .i64 (g 8)) := blk_cell hM.out.box 8
  go_wp2_with fail
  clear d0 d1 d2 d3 d4 d5 d6 d7 d8
  refine (scheck_any g 0 _ (by rw [if_pos HS.out])).mono ?_
  rintro e w6 ⟨rfl, hb⟩
  replace hM := Lib.hid (hM.out.under (below_of_grown hb))
  clear hb
  go_wp2_with fail
  have HM0 := hM
  go_loopg [12] 8 (fun gk s12 wr => ∃ k : Nat, k ≤ 8 ∧ gk = 8 - k ∧ s12 = .int .i64 k ∧ Hid (L16 g w wr (.slice A1 8 c1) (saysL g) (.slice A2 (eunv x g (-1)).1.length c2) (eunv x g (-1)).1 (.slice A3 (eunv x g 1).1.length c3) (eunv x g 1).1))
  case atStart => exact ⟨0, by omega, rfl, rfl, hM⟩
  case round =>
    clear hM HM0
    obtain ⟨k, hk, rfl, rfl, hM⟩ := hrel
    by_cases hlt : k < 8
    · have k1 : (k : Int) < 8 := by omega
      have k0 : (0 : Int) ≤ (k : Int) := by omega
      obtain ⟨ad, e, hcell⟩ := Kd.at_int (R_C hM.out.rl) (k : Int) k0 (by rw [saysL_len]; exact k1)
      subst e
      rw [saysL_rd g k hlt, Int.toNat_natCast] at hcell
      have hsay := Lib.hid (fun W => rsays_any g k W hlt HS.out.1.1 HS.out.1.2)
      generalize hsv : sayv g k = sv at hcell hsay
      have Hsv := Lib.hid hsv
      clear hsv
      have d0 : wr.cell? ⟨w.heap.size, 0, none⟩ = some (.int .i64 (g 0)) := blk_cell hM.out.box 0
      have d1 : wr.cell? ⟨w.heap.size, 1, none⟩ = some (.int .i64 (g 1)) := blk_cell hM.out.box 1
      have d2 : wr.cell? ⟨w.heap.size, 2, none⟩ = some (.int .i64 (g 2)) := blk_cell hM.out.box 2
      have d3 : wr.cell? ⟨w.heap.size, 3, none⟩ = some (.int .i64 (g 3)) := blk_cell hM.out.box 3
      have d4 : wr.cell? ⟨w.heap.size, 4, none⟩ = some (.int .i64 (g 4)) := blk_cell hM.out.box 4
      have d5 : wr.cell? ⟨w.heap.size, 5, none⟩ = some (.int .i64 (g 5)) := blk_cell hM.out.box 5
      have d6 : wr.cell? ⟨w.heap.size, 6, none⟩ = some (.int .i64 (g 6)) := blk_cell hM.out.box 6
      have d7 : wr.cell? ⟨w.heap.size, 7, none⟩ = some (.int .i64 (g 7)) := blk_cell hM.out.box 7
      have d8 : wr.cell? ⟨w.heap.size, 8, none⟩ = some (.int .i64 (g 8)) := blk_cell hM.out.box 8
      have hS9 := Lib.hid (show wr.cell? (ad.add k) = some (.int .i32 sv) ∧ wr.cell? ⟨w.heap.size, 0, none⟩ = some (.int .i64 (g 0)) ∧ wr.cell? ⟨w.heap.size, 1, none⟩ = some (.int .i64 (g 1)) ∧ wr.cell? ⟨w.heap.size, 2, none⟩ = some (.int .i64 (g 2)) ∧ wr.cell? ⟨w.heap.size, 3, none⟩ = some (.int .i64 (g 3)) ∧ wr.cell? ⟨w.heap.size, 4, none⟩ = some (.int .i64 (g 4)) ∧ wr.cell? ⟨w.heap.size, 5, none⟩ = some (.int .i64 (g 5)) ∧ wr.cell? ⟨w.heap.size, 6, none⟩ = some (.int .i64 (g 6)) ∧ wr.cell? ⟨w.heap.size, 7, none⟩ = some (.int .i64 (g 7)) ∧ wr.cell? ⟨w.heap.size, 8, none⟩ = some (.int .i64 (g 8)) from ⟨hcell, d0, d1, d2, d3, d4, d5, d6, d7, d8⟩)
      clear d0 d1 d2 d3 d4 d5 d6 d7 d8 hcell
      go_wp2_with fail
      go_region_held3 (fun w' => w'.cell? (ad.add k) = some (.int .i32 sv) ∧ w'.cell? ⟨w.heap.size, 0, none⟩ = some (.int .i64 (g 0)) ∧ w'.cell? ⟨w.heap.size, 1, none⟩ = some (.int .i64 (g 1)) ∧ w'.cell? ⟨w.heap.size, 2, none⟩ = some (.int .i64 (g 2)) ∧ w'.cell? ⟨w.heap.size, 3, none⟩ = some (.int .i64 (g 3)) ∧ w'.cell? ⟨w.heap.size, 4, none⟩ = some (.int .i64 (g 4)) ∧ w'.cell? ⟨w.heap.size, 5, none⟩ = some (.int .i64 (g 5)) ∧ w'.cell? ⟨w.heap.size, 6, none⟩ = some (.int .i64 (g 6)) ∧ w'.cell? ⟨w.heap.size, 7, none⟩ = some (.int .i64 (g 7)) ∧ w'.cell? ⟨w.heap.size, 8, none⟩ = some (.int .i64 (g 8)))
        (first | exact hHeld | exact hS9.out | exact hS8.out)
        ((go_at_call 29; refine (hsay.out _).mono ?_; rintro e w7 ⟨rfl, hb7⟩; (have hM7 := Lib.hid ((hM.out.drew 1).under hb7)); (have hS8 := Lib.hid (show w7.cell? (ad.add k) = some (.int .i32 sv) ∧ w7.cell? ⟨w.heap.size, 0, none⟩ = some (.int .i64 (g 0)) ∧ w7.cell? ⟨w.heap.size, 1, none⟩ = some (.int .i64 (g 1)) ∧ w7.cell? ⟨w.heap.size, 2, none⟩ = some (.int .i64 (g 2)) ∧ w7.cell? ⟨w.heap.size, 3, none⟩ = some (.int .i64 (g 3)) ∧ w7.cell? ⟨w.heap.size, 4, none⟩ = some (.int .i64 (g 4)) ∧ w7.cell? ⟨w.heap.size, 5, none⟩ = some (.int .i64 (g 5)) ∧ w7.cell? ⟨w.heap.size, 6, none⟩ = some (.int .i64 (g 6)) ∧ w7.cell? ⟨w.heap.size, 7, none⟩ = some (.int .i64 (g 7)) ∧ w7.cell? ⟨w.heap.size, 8, none⟩ = some (.int .i64 (g 8)) from by
          obtain ⟨e0, e1, e2, e3, e4, e5, e6, e7, e8, e9⟩ := hS9.out
          have up : ∀ p v, wr.cell? p = some v → w7.cell? p = some v := fun p v h => (hb7.cell (World.block_lt_of_cell? _ _ (by exact h))).trans h
          exact ⟨up _ _ e0, up _ _ e1, up _ _ e2, up _ _ e3, up _ _ e4, up _ _ e5, up _ _ e6, up _ _ e7, up _ _ e8, up _ _ e9⟩)); clear hb7))
      clear hS9 hS8 hM
      go_wp2
      go_roundg (8 - (k + 1))
      case measure => omega
      case rel => exact ⟨k + 1, by omega, rfl, by push_cast; rfl, hM7.out⟩
    · obtain rfl : k = 8 := by omega
      have HD := Lib.hid (decide_eq_true HN.out)
      go_wp2_with fail
      refine (may_any A c x _ (Kd.C_below Hr.out hM.out.below) Hc.out).mono ?_
      rw [HD.out]
      rintro e w7 ⟨rfl, hb⟩
      replace hM := Lib.hid (hM.out.under hb)
      clear hb
      have e1 : eunv x g (-1) = (turnL x g (-1), 0) := if_pos ⟨HN.out, HS.out⟩
      have e2 : eunv x g 1 = (turnL x g 1, 0) := if_pos ⟨HN.out, HS.out⟩
      simp only [e1, e2, turnL_len] at hM ⊢
      have E1 : Hid ((eunv x g (-1)).1.length = (turnL x g (-1)).length) := by show _ = _; rw [e1]
      have E2 : Hid ((eunv x g 1).1.length = (turnL x g 1).length) := by show _ = _; rw [e2]
      clear e1 e2
      rw [E1.out] at Hc2
      rw [E2.out] at Hc3
      have hl9 : x.length ≤ 140737488351232 := by omega
      have d0 : w7.cell? ⟨w.heap.size, 0, none⟩ = some (.int .i64 (g 0)) := blk_cell hM.out.box 0
      have d1 : w7.cell? ⟨w.heap.size, 1, none⟩ = some (.int .i64 (g 1)) := blk_cell hM.out.box 1
      have d2 : w7.cell? ⟨w.heap.size, 2, none⟩ = some (.int .i64 (g 2)) := blk_cell hM.out.box 2
      have d3 : w7.cell? ⟨w.heap.size, 3, none⟩ = some (.int .i64 (g 3)) := blk_cell hM.out.box 3
      have d4 : w7.cell? ⟨w.heap.size, 4, none⟩ = some (.int .i64 (g 4)) := blk_cell hM.out.box 4
      have d5 : w7.cell? ⟨w.heap.size, 5, none⟩ = some (.int .i64 (g 5)) := blk_cell hM.out.box 5
      have d6 : w7.cell? ⟨w.heap.size, 6, none⟩ = some (.int .i64 (g 6)) := blk_cell hM.out.box 6
      have d7 : w7.cell? ⟨w.heap.size, 7, none⟩ = some (.int .i64 (g 7)) := blk_cell hM.out.box 7
      have d8 : w7.cell? ⟨w.heap.size, 8, none⟩ = some (.int .i64 (g 8)) := blk_cell hM.out.box 8
      go_wp2_with fail
      clear d0 d1 d2 d3 d4 d5 d6 d7 d8
      refine (rturn_any A c x g true _ Hc.out (Kd.C_below Hr.out hM.out.below) Hx.out HN.out HS.out).mono ?_
      rw [show sgn true = -1 from rfl]
      rintro e w8 ⟨v4, rfl, hR4, hb⟩
      obtain ⟨A4, c4, rfl, hc4, hC4⟩ := Kd.R_reads hR4
      replace hM := Lib.hid (hM.out.under hb)
      have S1 := Lib.hid (same32_any A2 A4 c2 c4 (turnL x g (-1)) w8 (R_C hM.out.ra) Hc2.out hC4 hc4 (by rw [turnL_len]; exact hl9))
      clear hb hR4 hc4 hC4
      rw [turnL_len] at S1 ⊢
      go_wp2_with fail
      refine S1.out.mono ?_
      rintro e w9 ⟨rfl, hb⟩
      replace hM := Lib.hid (hM.out.under hb)
      clear hb S1
      have d0 : w9.cell? ⟨w.heap.size, 0, none⟩ = some (.int .i64 (g 0)) := blk_cell hM.out.box 0
      have d1 : w9.cell? ⟨w.heap.size, 1, none⟩ = some (.int .i64 (g 1)) := blk_cell hM.out.box 1
      have d2 : w9.cell? ⟨w.heap.size, 2, none⟩ = some (.int .i64 (g 2)) := blk_cell hM.out.box 2
      have d3 : w9.cell? ⟨w.heap.size, 3, none⟩ = some (.int .i64 (g 3)) := blk_cell hM.out.box 3
      have d4 : w9.cell? ⟨w.heap.size, 4, none⟩ = some (.int .i64 (g 4)) := blk_cell hM.out.box 4
      have d5 : w9.cell? ⟨w.heap.size, 5, none⟩ = some (.int .i64 (g 5)) := blk_cell hM.out.box 5
      have d6 : w9.cell? ⟨w.heap.size, 6, none⟩ = some (.int .i64 (g 6)) := blk_cell hM.out.box 6
      have d7 : w9.cell? ⟨w.heap.size, 7, none⟩ = some (.int .i64 (g 7)) := blk_cell hM.out.box 7
      have d8 : w9.cell? ⟨w.heap.size, 8, none⟩ = some (.int .i64 (g 8)) := blk_cell hM.out.box 8
      go_wp2_with fail
      clear d0 d1 d2 d3 d4 d5 d6 d7 d8
      refine (rturn_any A c x g false _ Hc.out (Kd.C_below Hr.out hM.out.below) Hx.out HN.out HS.out).mono ?_
      rw [show sgn false = 1 from rfl]
      rintro e w10 ⟨v5, rfl, hR5, hb⟩
      obtain ⟨A5, c5, rfl, hc5, hC5⟩ := Kd.R_reads hR5
      replace hM := Lib.hid (hM.out.under hb)
      have S2 := Lib.hid (same32_any A3 A5 c3 c5 (turnL x g 1) w10 (R_C hM.out.rb) Hc3.out hC5 hc5 (by rw [turnL_len]; exact hl9))
      clear hb hR5 hc5 hC5
      rw [turnL_len] at S2 ⊢
      go_wp2_with fail
      refine S2.out.mono ?_
      rintro e w11 ⟨rfl, hb⟩
      replace hM := Lib.hid (hM.out.under hb)
      clear hb S2
      go_wp2
      go_ret
      exact ⟨rfl, hM.out.below⟩
set_option maxRecDepth 100000 in
set_option maxHeartbeats 4000000 in
theorem l16_nok (A : Option Addr) (c : Nat) (x : List Int) (g : Nat → Int) (hl : x.length ≤ 300) (hs : Sok g) (hn : ¬ Nok (x.length : Int)) (w : World) (hr : Kd.C (Kd.int .i32) w A x.length x) (hc : x.length ≤ c) (hx : ∀ v ∈ x, I32 v) :
    Calls Try.prog 6 #[.slice A x.length c, sval g] w fun e w' => e = .returned (.bool true) ∧ Below w.heap.size w w' := by
  have HDS : Hid (decide (Sok g) = true) := decide_eq_true hs
  have HN := Lib.hid hn
  clear hn
  have Hr := Lib.hid hr
  have Hx := Lib.hid hx
  have Hc := Lib.hid hc
  have HS := Lib.hid hs
  clear hr hx hc hs
  have HB : Hid (Below w.heap.size w (w.alloc (.cells (row9 g) 59))) := (Below.refl _ _).alloc (Nat.le_refl _) _
  have HF : Hid ((w.alloc (.cells (row9 g) 59)).heap[w.heap.size]? = some (.cells (row9 g) 59 (0, 0))) := heap_alloc_new w _
  have h300 : ¬ (300 : Int) < (x.length : Int) := by omega
  go_enter Try.func6, Try.ntmps6
  go_wp2_with fail
  refine (alive16_any _).mono ?_
  rintro e w1 ⟨rfl, hb⟩
  replace HF := Lib.hid (blk_below HF.out hb)
  replace HB := Lib.hid (below_then HB.out (by simp) hb)
  clear hb
  have d0 : w1.cell? ⟨w.heap.size, 0, none⟩ = some (.int .i64 (g 0)) := blk_cell HF.out 0
  have d1 : w1.cell? ⟨w.heap.size, 1, none⟩ = some (.int .i64 (g 1)) := blk_cell HF.out 1
  have d2 : w1.cell? ⟨w.heap.size, 2, none⟩ = some (.int .i64 (g 2)) := blk_cell HF.out 2
  have d3 : w1.cell? ⟨w.heap.size, 3, none⟩ = some (.int .i64 (g 3)) := blk_cell HF.out 3
  have d4 : w1.cell? ⟨w.heap.size, 4, none⟩ = some (.int .i64 (g 4)) := blk_cell HF.out 4
  have d5 : w1.cell? ⟨w.heap.size, 5, none⟩ = some (.int .i64 (g 5)) := blk_cell HF.out 5
  have d6 : w1.cell? ⟨w.heap.size, 6, none⟩ = some (.int .i64 (g 6)) := blk_cell HF.out 6
  have d7 : w1.cell? ⟨w.heap.size, 7, none⟩ = some (.int .i64 (g 7)) := blk_cell HF.out 7
  have d8 : w1.cell? ⟨w.heap.size, 8, none⟩ = some (.int .i64 (g 8)) := blk_cell HF.out 8
  go_wp2_with fail
  clear d0 d1 d2 d3 d4 d5 d6 d7 d8
  refine (says_any g _ HS.out).mono ?_
  rintro e w2 ⟨v1, rfl, hR1, hb⟩
  replace HF := Lib.hid (blk_below HF.out hb)
  replace hR1 := Lib.hid (Kd.R_lower hR1 HB.out.size)
  replace HB := Lib.hid (below_then HB.out HB.out.size hb)
  clear hb
  have d0 : w2.cell? ⟨w.heap.size, 0, none⟩ = some (.int .i64 (g 0)) := blk_cell HF.out 0
  have d1 : w2.cell? ⟨w.heap.size, 1, none⟩ = some (.int .i64 (g 1)) := blk_cell HF.out 1
  have d2 : w2.cell? ⟨w.heap.size, 2, none⟩ = some (.int .i64 (g 2)) := blk_cell HF.out 2
  have d3 : w2.cell? ⟨w.heap.size, 3, none⟩ = some (.int .i64 (g 3)) := blk_cell HF.out 3
  have d4 : w2.cell? ⟨w.heap.size, 4, none⟩ = some (.int .i64 (g 4)) := blk_cell HF.out 4
  have d5 : w2.cell? ⟨w.heap.size, 5, none⟩ = some (.int .i64 (g 5)) := blk_cell HF.out 5
  have d6 : w2.cell? ⟨w.heap.size, 6, none⟩ = some (.int .i64 (g 6)) := blk_cell HF.out 6
  have d7 : w2.cell? ⟨w.heap.size, 7, none⟩ = some (.int .i64 (g 7)) := blk_cell HF.out 7
  have d8 : w2.cell? ⟨w.heap.size, 8, none⟩ = some (.int .i64 (g 8)) := blk_cell HF.out 8
  go_wp2_with fail
  clear d0 d1 d2 d3 d4 d5 d6 d7 d8
  refine (even_any A c x g _ Hc.out (Kd.C_below Hr.out HB.out) Hx.out).mono ?_
  rintro e w3 ⟨v2, rfl, hR2, hb⟩
  replace HF := Lib.hid (blk_below HF.out hb)
  replace hR1 := Lib.hid (Kd.R_below hR1.out hb)
  replace hR2 := Lib.hid (Kd.R_lower hR2 HB.out.size)
  replace HB := Lib.hid (below_then HB.out HB.out.size hb)
  clear hb
  have d0 : w3.cell? ⟨w.heap.size, 0, none⟩ = some (.int .i64 (g 0)) := blk_cell HF.out 0
  have d1 : w3.cell? ⟨w.heap.size, 1, none⟩ = some (.int .i64 (g 1)) := blk_cell HF.out 1
  have d2 : w3.cell? ⟨w.heap.size, 2, none⟩ = some (.int .i64 (g 2)) := blk_cell HF.out 2
  have d3 : w3.cell? ⟨w.heap.size, 3, none⟩ = some (.int .i64 (g 3)) := blk_cell HF.out 3
  have d4 : w3.cell? ⟨w.heap.size, 4, none⟩ = some (.int .i64 (g 4)) := blk_cell HF.out 4
  have d5 : w3.cell? ⟨w.heap.size, 5, none⟩ = some (.int .i64 (g 5)) := blk_cell HF.out 5
  have d6 : w3.cell? ⟨w.heap.size, 6, none⟩ = some (.int .i64 (g 6)) := blk_cell HF.out 6
  have d7 : w3.cell? ⟨w.heap.size, 7, none⟩ = some (.int .i64 (g 7)) := blk_cell HF.out 7
  have d8 : w3.cell? ⟨w.heap.size, 8, none⟩ = some (.int .i64 (g 8)) := blk_cell HF.out 8
  go_wp2_with fail
  clear d0 d1 d2 d3 d4 d5 d6 d7 d8
  refine (uneven_any A c x g _ Hc.out (Kd.C_below Hr.out HB.out) Hx.out).mono ?_
  rintro e w4 ⟨v3, rfl, hR3, hb⟩
  replace HF := Lib.hid (blk_below HF.out hb)
  replace hR1 := Lib.hid (Kd.R_below hR1.out hb)
  replace hR2 := Lib.hid (Kd.R_below hR2.out hb)
  replace hR3 := Lib.hid (Kd.R_lower hR3 HB.out.size)
  replace HB := Lib.hid (below_then HB.out HB.out.size hb)
  clear hb
  have hM : Hid (L16 g w w4 v1 (saysL g) v2 (eunv x g (-1)).1 v3 (eunv x g 1).1) := ⟨HF.out, hR1.out, hR2.out, hR3.out, HB.out⟩
  clear HF hR1 hR2 hR3 HB
  obtain ⟨A1, c1, rfl, hc1, -⟩ := Kd.R_reads hM.out.rl
  rw [saysL_len] at hM hc1 ⊢
  obtain ⟨A2, c2, rfl, hc2, -⟩ := Kd.R_reads hM.out.ra
  obtain ⟨A3, c3, rfl, hc3, -⟩ := Kd.R_reads hM.out.rb
  have Hc2 := Lib.hid hc2
  have Hc3 := Lib.hid hc3
  clear hc2 hc3
  clear hc1
  have d0 : w4.cell? ⟨w.heap.size, 0, none⟩ = some (.int .i64 (g 0)) := blk_cell hM.out.box 0
  have d1 : w4.cell? ⟨w.heap.size, 1, none⟩ = some (.int .i64 (g 1)) := blk_cell hM.out.box 1
  have d2 : w4.cell? ⟨w.heap.size, 2, none⟩ = some (.int .i64 (g 2)) := blk_cell hM.out.box 2
  have d3 : w4.cell? ⟨w.heap.size, 3, none⟩ = some (.int .i64 (g 3)) := blk_cell hM.out.box 3
  have d4 : w4.cell? ⟨w.heap.size, 4, none⟩ = some (.int .i64 (g 4)) := blk_cell hM.out.box 4
  have d5 : w4.cell? ⟨w.heap.size, 5, none⟩ = some (.int .i64 (g 5)) := blk_cell hM.out.box 5
  have d6 : w4.cell? ⟨w.heap.size, 6, none⟩ = some (.int .i64 (g 6)) := blk_cell hM.out.box 6
  have d7 : w4.cell? ⟨w.heap.size, 7, none⟩ = some (.int .i64 (g 7)) := blk_cell hM.out.box 7
  have d8 : w4.cell? ⟨w.heap.size, 8, none⟩ = some (.int .i64 (g 8)) := blk_cell hM.out.box 8
  go_wp2_with fail
  clear d0 d1 d2 d3 d4 d5 d6 d7 d8
  refine (rscheck_any g _).mono ?_
  rw [HDS.out]
  rintro e w5 ⟨rfl, hb⟩
  replace hM := Lib.hid (hM.out.under (below_of_grown hb))
  clear hb
  have d0 : w5.cell? ⟨w.heap.size, 0, none⟩ = some (.int .i64 (g 0)) := blk_cell hM.out.box 0
  have d1 : w5.cell? ⟨w.heap.size, 1, none⟩ = some (.int .i64 (g 1)) := blk_cell hM.out.box 1
  have d2 : w5.cell? ⟨w.heap.size, 2, none⟩ = some (.int .i64 (g 2)) := blk_cell hM.out.box 2
  have d3 : w5.cell? ⟨w.heap.size, 3, none⟩ = some (.int .i64 (g 3)) := blk_cell hM.out.box 3
  have d4 : w5.cell? ⟨w.heap.size, 4, none⟩ = some (.int .i64 (g 4)) := blk_cell hM.out.box 4
  have d5 : w5.cell? ⟨w.heap.size, 5, none⟩ = some (.int .i64 (g 5)) := blk_cell hM.out.box 5
  have d6 : w5.cell? ⟨w.heap.size, 6, none⟩ = some (.int .i64 (g 6)) := blk_cell hM.out.box 6
  have d7 : w5.cell? ⟨w.heap.size, 7, none⟩ = some (.int .i64 (g 7)) := blk_cell hM.out.box 7
  have d8 : w5.cell? ⟨w.heap.size, 8, none⟩ = some (.int .i64 (g 8)) := blk_cell hM.out.box 8
  go_wp2_with fail
  clear d0 d1 d2 d3 d4 d5 d6 d7 d8
  refine (scheck_any g 0 _ (by rw [if_pos HS.out])).mono ?_
  rintro e w6 ⟨rfl, hb⟩
  replace hM := Lib.hid (hM.out.under (below_of_grown hb))
  clear hb
  go_wp2_with fail
  have HM0 := hM
  go_loopg [12] 8 (fun gk s12 wr => ∃ k : Nat, k ≤ 8 ∧ gk = 8 - k ∧ s12 = .int .i64 k ∧ Hid (L16 g w wr (.slice A1 8 c1) (saysL g) (.slice A2 (eunv x g (-1)).1.length c2) (eunv x g (-1)).1 (.slice A3 (eunv x g 1).1.length c3) (eunv x g 1).1))
  case atStart => exact ⟨0, by omega, rfl, rfl, hM⟩
  case round =>
    clear hM HM0
    obtain ⟨k, hk, rfl, rfl, hM⟩ := hrel
    by_cases hlt : k < 8
    · have k1 : (k : Int) < 8 := by omega
      have k0 : (0 : Int) ≤ (k : Int) := by omega
      obtain ⟨ad, e, hcell⟩ := Kd.at_int (R_C hM.out.rl) (k : Int) k0 (by rw [saysL_len]; exact k1)
      subst e
      rw [saysL_rd g k hlt, Int.toNat_natCast] at hcell
      have hsay := Lib.hid (fun W => rsays_any g k W hlt HS.out.1.1 HS.out.1.2)
      generalize hsv : sayv g k = sv at hcell hsay
      have Hsv := Lib.hid hsv
      clear hsv
      have d0 : wr.cell? ⟨w.heap.size, 0, none⟩ = some (.int .i64 (g 0)) := blk_cell hM.out.box 0
      have d1 : wr.cell? ⟨w.heap.size, 1, none⟩ = some (.int .i64 (g 1)) := blk_cell hM.out.box 1
      have d2 : wr.cell? ⟨w.heap.size, 2, none⟩ = some (.int .i64 (g 2)) := blk_cell hM.out.box 2
      have d3 : wr.cell? ⟨w.heap.size, 3, none⟩ = some (.int .i64 (g 3)) := blk_cell hM.out.box 3
      have d4 : wr.cell? ⟨w.heap.size, 4, none⟩ = some (.int .i64 (g 4)) := blk_cell hM.out.box 4
      have d5 : wr.cell? ⟨w.heap.size, 5, none⟩ = some (.int .i64 (g 5)) := blk_cell hM.out.box 5
      have d6 : wr.cell? ⟨w.heap.size, 6, none⟩ = some (.int .i64 (g 6)) := blk_cell hM.out.box 6
      have d7 : wr.cell? ⟨w.heap.size, 7, none⟩ = some (.int .i64 (g 7)) := blk_cell hM.out.box 7
      have d8 : wr.cell? ⟨w.heap.size, 8, none⟩ = some (.int .i64 (g 8)) := blk_cell hM.out.box 8
      have hS9 := Lib.hid (show wr.cell? (ad.add k) = some (.int .i32 sv) ∧ wr.cell? ⟨w.heap.size, 0, none⟩ = some (.int .i64 (g 0)) ∧ wr.cell? ⟨w.heap.size, 1, none⟩ = some (.int .i64 (g 1)) ∧ wr.cell? ⟨w.heap.size, 2, none⟩ = some (.int .i64 (g 2)) ∧ wr.cell? ⟨w.heap.size, 3, none⟩ = some (.int .i64 (g 3)) ∧ wr.cell? ⟨w.heap.size, 4, none⟩ = some (.int .i64 (g 4)) ∧ wr.cell? ⟨w.heap.size, 5, none⟩ = some (.int .i64 (g 5)) ∧ wr.cell? ⟨w.heap.size, 6, none⟩ = some (.int .i64 (g 6)) ∧ wr.cell? ⟨w.heap.size, 7, none⟩ = some (.int .i64 (g 7)) ∧ wr.cell? ⟨w.heap.size, 8, none⟩ = some (.int .i64 (g 8)) from ⟨hcell, d0, d1, d2, d3, d4, d5, d6, d7, d8⟩)
      clear d0 d1 d2 d3 d4 d5 d6 d7 d8 hcell
      go_wp2_with fail
      go_region_held3 (fun w' => w'.cell? (ad.add k) = some (.int .i32 sv) ∧ w'.cell? ⟨w.heap.size, 0, none⟩ = some (.int .i64 (g 0)) ∧ w'.cell? ⟨w.heap.size, 1, none⟩ = some (.int .i64 (g 1)) ∧ w'.cell? ⟨w.heap.size, 2, none⟩ = some (.int .i64 (g 2)) ∧ w'.cell? ⟨w.heap.size, 3, none⟩ = some (.int .i64 (g 3)) ∧ w'.cell? ⟨w.heap.size, 4, none⟩ = some (.int .i64 (g 4)) ∧ w'.cell? ⟨w.heap.size, 5, none⟩ = some (.int .i64 (g 5)) ∧ w'.cell? ⟨w.heap.size, 6, none⟩ = some (.int .i64 (g 6)) ∧ w'.cell? ⟨w.heap.size, 7, none⟩ = some (.int .i64 (g 7)) ∧ w'.cell? ⟨w.heap.size, 8, none⟩ = some (.int .i64 (g 8)))
        (first | exact hHeld | exact hS9.out | exact hS8.out)
        ((go_at_call 29; refine (hsay.out _).mono ?_; rintro e w7 ⟨rfl, hb7⟩; (have hM7 := Lib.hid ((hM.out.drew 1).under hb7)); (have hS8 := Lib.hid (show w7.cell? (ad.add k) = some (.int .i32 sv) ∧ w7.cell? ⟨w.heap.size, 0, none⟩ = some (.int .i64 (g 0)) ∧ w7.cell? ⟨w.heap.size, 1, none⟩ = some (.int .i64 (g 1)) ∧ w7.cell? ⟨w.heap.size, 2, none⟩ = some (.int .i64 (g 2)) ∧ w7.cell? ⟨w.heap.size, 3, none⟩ = some (.int .i64 (g 3)) ∧ w7.cell? ⟨w.heap.size, 4, none⟩ = some (.int .i64 (g 4)) ∧ w7.cell? ⟨w.heap.size, 5, none⟩ = some (.int .i64 (g 5)) ∧ w7.cell? ⟨w.heap.size, 6, none⟩ = some (.int .i64 (g 6)) ∧ w7.cell? ⟨w.heap.size, 7, none⟩ = some (.int .i64 (g 7)) ∧ w7.cell? ⟨w.heap.size, 8, none⟩ = some (.int .i64 (g 8)) from by
          obtain ⟨e0, e1, e2, e3, e4, e5, e6, e7, e8, e9⟩ := hS9.out
          have up : ∀ p v, wr.cell? p = some v → w7.cell? p = some v := fun p v h => (hb7.cell (World.block_lt_of_cell? _ _ (by exact h))).trans h
          exact ⟨up _ _ e0, up _ _ e1, up _ _ e2, up _ _ e3, up _ _ e4, up _ _ e5, up _ _ e6, up _ _ e7, up _ _ e8, up _ _ e9⟩)); clear hb7))
      clear hS9 hS8 hM
      go_wp2
      go_roundg (8 - (k + 1))
      case measure => omega
      case rel => exact ⟨k + 1, by omega, rfl, by push_cast; rfl, hM7.out⟩
    · obtain rfl : k = 8 := by omega
      have HD := Lib.hid (decide_eq_false HN.out)
      go_wp2_with fail
      refine (may_any A c x _ (Kd.C_below Hr.out hM.out.below) Hc.out).mono ?_
      rw [HD.out]
      rintro e w7 ⟨rfl, hb⟩
      replace hM := Lib.hid (hM.out.under hb)
      clear hb
      have e1 : eunv x g (-1) = ([], 1) := if_neg (fun h => HN.out h.1)
      have e2 : eunv x g 1 = ([], 1) := if_neg (fun h => HN.out h.1)
      simp only [e1, e2] at hM ⊢
      clear e1 e2
      go_wp2
      go_ret
      exact ⟨rfl, hM.out.below⟩
end Go.Proofs.YtojlgjdebokelabH
