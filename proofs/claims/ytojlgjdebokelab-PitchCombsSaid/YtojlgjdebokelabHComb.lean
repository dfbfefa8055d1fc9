import Derived.Test.YtojlgjdebokelabHLat
import Derived.Test.YtojlgjdebokelabPLib5x
import Derived.Lib.AppendZerosOnto
import Derived.Lib.SliceRun
import Derived.StillTailTactics
import Derived.Laws.CopyOwn
import Derived.Test.YtojlgjdebokelabPLib6x
import Derived.Deep.QuietTactic
import Derived.BigQuiet
import Derived.Deep.RegionHeld3
import Derived.Deep.DrawnRows
set_option linter.unusedVariables false
set_option linter.unusedSimpArgs false
namespace Go.Proofs.YtojlgjdebokelabH
open Go.RowKit Go.Proofs.YtojlgjdebokelabW.PrintWords Go.Proofs.YtojlgjdebokelabW.PrintMore Go.Proofs.YtojlgjdebokelabW
open Go.Proofs.Ytojlgjdebokelab.PLib5
theorem clone16_info : (Try.prog.info? 73).map (fun i => (i.zero, i.size, i.bytes)) = some (some (.int .i16 0), 1, 2) := by kernel_rfl
theorem clone64_info : (Try.prog.info? 2).map (fun i => (i.zero, i.size, i.bytes)) = some (some (.int .i64 0), 1, 8) := by kernel_rfl
theorem i64_bd (n : Int) : -9223372036854775808 ≤ IntKind.i64.wrap n ∧ IntKind.i64.wrap n ≤ 9223372036854775807 := by
  rw [IntWalk.i64_left]; unfold wrap64; omega
theorem R_fixed {k : IntKind} {e base : Nat} {w : World} {v : Value} {xs : List Int} (h : Kd.R (Kd.int k) e w base (fun _ => True) v xs) (hne : 0 < xs.length) :
    ∃ g c, v = .slice (some ⟨g, 0, none⟩) xs.length c ∧ base ≤ g ∧ g < w.heap.size ∧ Kd.R (Kd.int k) e w base (fun k => k = g) (.slice (some ⟨g, 0, none⟩) xs.length c) xs := by
  obtain ⟨A, c, rfl, hc, hC⟩ := Kd.R_reads h
  obtain ⟨ad, rfl, _⟩ := hC.2.2 hne
  obtain ⟨g, rfl⟩ := Kd.R_head h
  refine ⟨g, c, rfl, Kd.R_base h g (by simp [Value.ownBlock]), Kd.R_lt h g (by simp [Value.ownBlock]), Kd.R_flat (fun h => h) h (fun k hk _ => ?_)⟩
  simpa [Value.ownBlock] using hk.symm
theorem same16_l0 (l : List Int) (hl : l.length ≤ 140737488351232) (d : Nat) : ∀ (k : Nat) (i : Int), 0 ≤ i → i ≤ l.length → (l.length : Int) - i = d → d < k → psalteryref04_Same.l0 k l l i = some true := by
  induction d with
  | zero =>
    intro k i h0 h1 hd hk
    obtain ⟨k, rfl⟩ : ∃ m, k = m + 1 := ⟨k - 1, by omega⟩
    simp only [psalteryref04_Same.l0]; rw [if_neg (by omega)]
  | succ d ih =>
    intro k i h0 h1 hd hk
    obtain ⟨k, rfl⟩ : ∃ m, k = m + 1 := ⟨k - 1, by omega⟩
    simp only [psalteryref04_Same.l0]
    rw [if_pos (by omega), if_pos h0, if_pos (by omega), if_true, show wrap64 (i + 1) = i + 1 by unfold wrap64; omega]
    exact ih k (i + 1) (by omega) (by omega) (by omega) (by omega)
theorem same16_any (A0 A1 : Option Addr) (c0 c1 : Nat) (l : List Int) (w : World) (h0 : Kd.C (Kd.int .i16) w A0 l.length l) (hc0 : l.length ≤ c0) (h1 : Kd.C (Kd.int .i16) w A1 l.length l) (hc1 : l.length ≤ c1) (hl : l.length ≤ 140737488351232) :
    Calls Try.prog 18 #[.slice A0 l.length c0, .slice A1 l.length c1] w fun e w' => e = .returned (.bool true) ∧ ∃ n, w' = w.drewN n :=
  (psalteryref04_Same.calls (l.length + 1) A0 c0 l A1 c1 l true w h0 hc0 h1 hc1 (by unfold psalteryref04_Same.f; rw [if_pos rfl]; exact same16_l0 l hl l.length _ 0 (by omega) (by omega) (by omega) (by omega))).mono fun _ _ h => ⟨h.1, h.2.out⟩
end Go.Proofs.YtojlgjdebokelabH

namespace Go.Proofs.YtojlgjdebokelabH
open Go.RowKit Go.Proofs.YtojlgjdebokelabW.PrintWords Go.Proofs.YtojlgjdebokelabW.PrintMore Go.Proofs.YtojlgjdebokelabW
set_option maxRecDepth 100000 in
theorem grow_nil (n : Nat) (w : World) (h0 : 0 < n) (h1 : n ≤ 100000) :
    Calls Try.prog 107 #[.slice none 0 0, .int .i64 n] w fun e w' => ∃ v, e = .returned v ∧ Kd.R (Kd.int .i64) 2 w' w.heap.size (fun _ => True) v [] ∧ Below w.heap.size w w' := by
  obtain ⟨i0, hi, hzz⟩ := Option.map_eq_some_iff.1 clone64_info
  simp only [Prod.mk.injEq] at hzz
  obtain ⟨hz0, hz1, hz2⟩ := hzz
  have hrz : ∀ ty, (Builtin.append_ #[37, 3] ty #[.slice none 0 0, .int .i64 (n : Int)]).run Try.prog w =
      .ok (.slice (some ⟨w.heap.size, 0, none⟩) n (grownCap w n 0 2)) (w.drew.alloc (.cells (([] : List Value).toArray ++ Builtin.zeroCells (Value.int .i64 0).cells n ++ Builtin.zeroCells (Value.int .i64 0).cells (grownCap w n 0 2 - n)) 2)) := fun ty => by
    have h := Lib.run_append_grow_zeros (P := Try.prog) w 37 3 ty 2 i0 (.int .i64 0) .i64 .i64 Try.underlying37 Try.underlying3 hi hz0 none 0 0 [] (run_firstCells_none w.drew i0.size 0 0 0) n h0 (by omega) (by omega) (by omega) (by rw [hz2]; omega) (by rw [hz2]; exact growslice_fits (by omega) (by omega))
    simpa using h
  have hge := grownCap_ge w n 0 2
  have hle := grownCap_le_maxLen w n 0 2 (by unfold maxLen; omega)
  obtain ⟨G, hG⟩ : ∃ G, G = grownCap w n 0 2 := ⟨_, rfl⟩
  rw [← hG] at hrz hge hle
  unfold maxLen at hle
  have hown : Hid (Kd.R (Kd.int .i64) 2 (w.drew.alloc (.cells (([] : List Value).toArray ++ Builtin.zeroCells (Value.int .i64 0).cells n ++ Builtin.zeroCells (Value.int .i64 0).cells (G - n)) 2)) w.heap.size (fun _ => True) (.slice (some ⟨w.heap.size, 0, none⟩) 0 G) []) := by
    refine Kd.R_of_own (enc := Value.int .i64) ⟨rfl, .inr ⟨_, G, _, rfl, Nat.le_refl _, heap_alloc_new w.drew _, Nat.zero_le _, hle, ?_, rfl⟩⟩ (fun _ _ => trivial)
    simp [Builtin.zeroCells, Value.cells]
    omega
  have hB : Hid (Below w.heap.size w (w.drew.alloc (.cells (([] : List Value).toArray ++ Builtin.zeroCells (Value.int .i64 0).cells n ++ Builtin.zeroCells (Value.int .i64 0).cells (G - n)) 2))) := (below_drew1 (Below.refl _ _)).alloc (Nat.le_refl _) _
  generalize (w.drew.alloc (.cells (([] : List Value).toArray ++ Builtin.zeroCells (Value.int .i64 0).cells n ++ Builtin.zeroCells (Value.int .i64 0).cells (G - n)) 2)) = W at hrz hown hB
  clear hG
  have hn0 : (0 : Int) < (n : Int) := by omega
  have hn1 : (n : Int) ≤ 100000 := by omega
  have hGn : (n : Int) ≤ (G : Int) := by omega
  go_enter Try.func107, Try.ntmps107
  go_wp2_with (at_builtin; refine Lib.wpList_append_run _ rfl _ _ _ _ rfl _ _ rfl rfl _ _ (hrz _) ?_)
  go_ret
  exact ⟨_, rfl, hown.out, hB.out⟩
end Go.Proofs.YtojlgjdebokelabH

namespace Go.Proofs.YtojlgjdebokelabH
open Go.RowKit Go.Proofs.YtojlgjdebokelabW.PrintWords Go.Proofs.YtojlgjdebokelabW.PrintMore Go.Proofs.YtojlgjdebokelabW
set_option maxRecDepth 100000 in
set_option maxHeartbeats 2000000 in
theorem concat2_any (G : Nat) (A0 A1 : Option Addr) (c0 c1 : Nat) (x0 x1 : List Int) (w : World)
    (h0 : w.cell? ⟨G, 0, none⟩ = some (.slice A0 x0.length c0)) (h1 : w.cell? ⟨G, 1, none⟩ = some (.slice A1 x1.length c1))
    (hC0 : Kd.C (Kd.int .i64) w A0 x0.length x0) (hC1 : Kd.C (Kd.int .i64) w A1 x1.length x1) (hpos : 0 < x0.length + x1.length) (hle : x0.length + x1.length ≤ 100000) :
    Calls Try.prog 90 #[.slice (some ⟨G, 0, none⟩) 2 2] w fun e w' => ∃ v, e = .returned v ∧ Kd.R (Kd.int .i64) 2 w' w.heap.size (fun _ => True) v (x0 ++ x1) ∧ Below w.heap.size w w' := by
  have HC0 := Lib.hid hC0
  have HC1 := Lib.hid hC1
  have hG : G < w.heap.size := World.block_lt_of_cell? _ _ h0
  clear hC0 hC1
  have hb0 : (0 : Int) ≤ (x0.length : Int) := by omega
  have hb1 : (0 : Int) ≤ (x1.length : Int) := by omega
  have hb2 : (x0.length : Int) ≤ 100000 := by omega
  have hb3 : (x1.length : Int) ≤ 100000 := by omega
  go_enter Try.func90, Try.ntmps90
  go_wp2
  go_loopg [3, 5, 11] 2 (fun gk s3 s5 s11 wr => wr = w ∧ ((gk = 2 ∧ s11 = .int .i64 0 ∧ s3 = .int .i64 0) ∨ (gk = 1 ∧ s11 = .int .i64 1 ∧ s3 = .int .i64 (x0.length : Int)) ∨ (gk = 0 ∧ s11 = .int .i64 2 ∧ s3 = .int .i64 ((x0.length : Int) + (x1.length : Int)))))
  case atStart => exact ⟨rfl, .inl ⟨rfl, rfl, rfl⟩⟩
  case round =>
    obtain ⟨rfl, h⟩ := hrel
    rcases h with ⟨rfl, rfl, rfl⟩ | ⟨rfl, rfl, rfl⟩ | ⟨rfl, rfl, rfl⟩
    · go_wp2
      go_roundg 1
      case measure => omega
      case rel => exact ⟨rfl, .inr (.inl ⟨rfl, rfl, by simp⟩)⟩
    · go_wp2
      go_roundg 0
      case measure => omega
      case rel => exact ⟨rfl, .inr (.inr ⟨rfl, rfl, rfl⟩)⟩
    · have hg := grow_nil (x0.length + x1.length) wr hpos hle
      rw [show ((x0.length + x1.length : Nat) : Int) = (x0.length : Int) + (x1.length : Int) by omega] at hg
      have Hg := Lib.hid hg
      clear hg
      go_wp2_with fail
      refine Hg.out.mono ?_
      rintro e w1 ⟨v, rfl, hR, hB⟩
      have d0 : w1.cell? ⟨G, 0, none⟩ = some (.slice A0 x0.length c0) := (hB.cell (p := ⟨G, 0, none⟩) hG).trans h0
      have d1 : w1.cell? ⟨G, 1, none⟩ = some (.slice A1 x1.length c1) := (hB.cell (p := ⟨G, 1, none⟩) hG).trans h1
      have hR := Lib.hid hR
      have hB := Lib.hid hB
      obtain ⟨wo, rfl⟩ : ∃ wo : World, wo = wr := ⟨_, rfl⟩
      go_wp2_with fail
      go_loopg [6, 8, 27] 2 (fun gk s6 s8 s27 w2 => (gk = 2 ∧ s27 = .int .i64 0 ∧ Kd.R (Kd.int .i64) 2 w2 wo.heap.size (fun _ => True) s6 [] ∧ Below wo.heap.size wo w2) ∨ (gk = 1 ∧ s27 = .int .i64 1 ∧ Kd.R (Kd.int .i64) 2 w2 wo.heap.size (fun _ => True) s6 x0 ∧ Below wo.heap.size wo w2) ∨ (gk = 0 ∧ s27 = .int .i64 2 ∧ Kd.R (Kd.int .i64) 2 w2 wo.heap.size (fun _ => True) s6 (x0 ++ x1) ∧ Below wo.heap.size wo w2))
      case atStart => exact .inl ⟨rfl, rfl, hR.out, hB.out⟩
      case round =>
        clear d0 d1 hR hB
        rcases hrel with ⟨rfl, rfl, hR, hB⟩ | ⟨rfl, rfl, hR, hB⟩ | ⟨rfl, rfl, hR, hB⟩
        · have d0 : wr.cell? ⟨G, 0, none⟩ = some (.slice A0 x0.length c0) := (hB.cell (p := ⟨G, 0, none⟩) hG).trans h0
          have HR := Lib.hid hR
          have HB := Lib.hid hB
          have hsz := hB.size
          clear hR hB
          go_wp2_with ((with_reducible refine gate_builtin (b := .append) (xs := #[.tmp 31, .tmp 32]) rfl ?_); at_builtin; refine Kd.R_append_row (Value.int .i64) 0 (w0 := wo) wo.heap.size rfl (.tmp 31) (.tmp 32) 37 2 (.int .i64 0) 8 rfl Try.underlying37 clone64_info rfl (by decide) _ [] x0 _ _ _ (fun _ => True) rfl rfl (fun _ _ => trivial) HR.out (Kd.C_below HC0.out HB.out) HB.out hsz (by simp; omega) ?_; (intro v1 w3 hR hBl hg hat); (replace hR := Lib.hid hR); (replace hBl := Lib.hid hBl); clear hg hat)
          go_roundg 1
          case measure => omega
          case rel => exact .inr (.inl ⟨rfl, rfl, hR.out, hBl.out⟩)
        · have d1 : wr.cell? ⟨G, 1, none⟩ = some (.slice A1 x1.length c1) := (hB.cell (p := ⟨G, 1, none⟩) hG).trans h1
          have HR := Lib.hid hR
          have HB := Lib.hid hB
          have hsz := hB.size
          clear hR hB
          go_wp2_with ((with_reducible refine gate_builtin (b := .append) (xs := #[.tmp 31, .tmp 32]) rfl ?_); at_builtin; refine Kd.R_append_row (Value.int .i64) 0 (w0 := wo) wo.heap.size rfl (.tmp 31) (.tmp 32) 37 2 (.int .i64 0) 8 rfl Try.underlying37 clone64_info rfl (by decide) _ x0 x1 _ _ _ (fun _ => True) rfl rfl (fun _ _ => trivial) HR.out (Kd.C_below HC1.out HB.out) HB.out hsz (by omega) ?_; (intro v1 w3 hR hBl hg hat); (replace hR := Lib.hid hR); (replace hBl := Lib.hid hBl); clear hg hat)
          go_roundg 0
          case measure => omega
          case rel => exact .inr (.inr ⟨rfl, rfl, hR.out, hBl.out⟩)
        · have HR := Lib.hid hR
          have HB := Lib.hid hB
          clear hR hB
          go_wp2
          go_ret
          exact ⟨_, rfl, HR.out, HB.out⟩
end Go.Proofs.YtojlgjdebokelabH

namespace Go.Proofs.YtojlgjdebokelabH
open Go.RowKit Go.Proofs.YtojlgjdebokelabW.PrintWords Go.Proofs.YtojlgjdebokelabW.PrintMore Go.Proofs.YtojlgjdebokelabW
/-- What came ahead: 79 numbers in block g. -/
structure Past (g t : Nat) (w : World) (l : List Int) : Prop where
  box : w.heap[g]? = some (.cells (nums .i64 l).toArray t (0, 0))
  len : l.length = 79
theorem Past.C {g t : Nat} {w : World} {l : List Int} (h : Past g t w l) : Kd.C (Kd.int .i64) w (some ⟨g, 0, none⟩) l.length l := by
  refine Kd.C_of_reads (d := (0 : Int)) ⟨rfl, by rw [h.len]; decide, fun _ => ⟨_, rfl, fun j hj => ?_⟩⟩
  rw [add_plain, blk_cell h.box]
  simp [nums, hj]
set_option maxRecDepth 100000 in
theorem with_any (g t : Nat) (l : List Int) (A : Option Addr) (c : Nat) (x : List Int) (w : World) (hP : Past g t w l) (hC : Kd.C (Kd.int .i64) w A x.length x) (hx : x.length ≤ 1000) :
    Calls Try.prog 56 #[.pointer (some ⟨g, 0, none⟩), .slice A x.length c] w fun e w' => ∃ v, e = .returned v ∧ Kd.R (Kd.int .i64) 2 w' w.heap.size (fun _ => True) v (l ++ x) ∧ Below w.heap.size w w' := by
  have HP := Lib.hid hP
  have HC := Lib.hid hC
  clear hP hC
  go_enter Try.func56, Try.ntmps56
  go_wp2_with fail
  have hl := HP.out.len
  have d0 : (w.alloc (.cells #[.slice (some ⟨g, 0, none⟩) 79 79, .slice A x.length c] 37)).cell? ⟨w.heap.size, 0, none⟩ = some (.slice (some ⟨g, 0, none⟩) l.length 79) := by rw [hl]; exact blk_cell (heap_alloc_new w _) 0
  have d1 : (w.alloc (.cells #[.slice (some ⟨g, 0, none⟩) 79 79, .slice A x.length c] 37)).cell? ⟨w.heap.size, 1, none⟩ = some (.slice A x.length c) := blk_cell (heap_alloc_new w _) 1
  refine (concat2_any w.heap.size (some ⟨g, 0, none⟩) A 79 c l x _ d0 d1 (Kd.C_alloc HP.out.C _) (Kd.C_alloc HC.out _) (by omega) (by omega)).mono ?_
  rintro e w1 ⟨v, rfl, hR, hB⟩
  have hR := Lib.hid (Kd.R_lower hR (base' := w.heap.size) (by simp))
  have hB := Lib.hid (below_then ((Below.refl w.heap.size w).alloc (Nat.le_refl _) _) (by simp) hB)
  clear d0 d1 hl
  go_wp2
  go_ret
  exact ⟨_, rfl, hR.out, hB.out⟩
theorem Past.grown {g t g' : Nat} {w w1 : World} {l : List Int} (h : Past g t w l) (hg : w.grownBy w1 (some g')) (hne : g ≠ g') : Past g t w1 l :=
  ⟨blk_grown h.box hg (by intro e; injection e with e; exact hne e), h.len⟩
theorem Past.under {g t : Nat} {w w1 : World} {l : List Int} (h : Past g t w l) (hb : Below w.heap.size w w1) : Past g t w1 l := ⟨blk_below h.box hb, h.len⟩
theorem grown_setRow {w : World} {g : Nat} (cs : Array Value) : w.grownBy (w.setRow g cs) (some g) :=
  ⟨rfl, rfl, rfl, by simp [World.setRow], fun k hk hne => setRow_other w g k cs (fun e => hne (by rw [e]))⟩
set_option maxRecDepth 100000 in
theorem keep_any (g t h c : Nat) (l al : List Int) (w : World) (hP : Past g t w l) (hR : Kd.R (Kd.int .i64) 2 w 0 (fun k => k = h) (.slice (some ⟨h, 0, none⟩) al.length c) al) (hal : 79 ≤ al.length) (hle : al.length ≤ 1000) (hne : g ≠ h) :
    Calls Try.prog 58 #[.pointer (some ⟨g, 0, none⟩), .slice (some ⟨h, 0, none⟩) al.length c] w fun e w' => e = .returned (.tuple #[]) ∧ Past g t w' (al.drop (al.length - 79)) ∧ w.grownBy w' (some g) := by
  have hc : al.length ≤ c := by
    obtain ⟨_, c', e, h, _⟩ := Kd.R_reads hR
    injection e with _ _ e2
    omega
  have HP := Lib.hid hP
  have HR := Lib.hid hR
  clear hP hR
  have h79 : (79 : Int) ≤ (al.length : Int) := by omega
  have h0 : (0 : Int) ≤ (al.length : Int) - 79 := by omega
  have hw : IntKind.i64.wrap ((al.length : Int) - 79) = (al.length : Int) - 79 := IntWalk.i64_in _ (by omega)
  have hcc : (al.length : Int) ≤ (c : Int) := by omega
  have hcc2 : (al.length : Int) - 79 ≤ (al.length : Int) := by omega
  have hcc3 : (al.length : Int) - 79 < (c : Int) := by omega
  have hcc4 : ((al.length : Int) - 79).toNat = al.length - 79 := by omega
  go_enter Try.func58, Try.ntmps58
  go_wp2_with fail
  go_still_tail 9, (by kernel_rfl)
  change wpList _ _ _ _ _ w.drew
  have e1 : ¬ c = al.length - 79 := by omega
  have e2 : al.length - (al.length - 79) = 79 := by omega
  rw [if_neg e1, e2]
  have hcs : (nums .i64 (al.drop (al.length - 79))).length = 79 := by simp [nums]; omega
  refine wpList_copy_own rfl (.tmp 7) (.tmp 12) 37 37 rfl 2 Try.underlying37 (by kernel_rfl) g 0 79 79 ⟨h, al.length - 79, none⟩ 79 _ rfl rfl (nums .i64 l).toArray t (blk_drew HP.out.box) (nums .i64 (al.drop (al.length - 79))) (by rw [hcs]; rfl) ?_ ?_ ?_ ?_
  · intro j v hj
    have hj2 : j < 79 := by
      rcases Nat.lt_or_ge j 79 with h | h
      · exact h
      · rw [List.getElem?_eq_none (by omega)] at hj; cases hj
    have hcell := (Kd.R_celln (0 : Int) HR.out ((al.length - 79 + j : Nat) : Int) (by omega) (by omega)).1
    rw [Int.toNat_natCast] at hcell
    rw [show (Addr.add ⟨h, al.length - 79, none⟩ j) = ⟨h, al.length - 79 + j, none⟩ by simp [Addr.add]]
    refine (show w.drew.cell? _ = w.cell? _ from rfl).trans (hcell.trans ?_)
    rw [← hj]
    simp only [nums, List.getElem?_map, List.getElem?_drop]
    unfold rdOf
    rw [Int.toNat_natCast, List.getD_eq_getElem?_getD, List.getElem?_eq_getElem (by omega)]
    rfl
  · simp [hcs, nums, HP.out.len]; omega
  · intro v hv
    simp only [nums, List.mem_map] at hv
    obtain ⟨x, _, rfl⟩ := hv
    rfl
  · have e3 : ((nums .i64 l).toArray.toList.take 0 ++ (nums .i64 (al.drop (al.length - 79)) ++ (nums .i64 l).toArray.toList.drop (0 + (nums .i64 (al.drop (al.length - 79))).length))) = nums .i64 (al.drop (al.length - 79)) := by
      have e4 : (nums .i64 l).toArray.toList.drop (0 + 79) = [] := List.drop_eq_nil_of_le (by have := HP.out.len; simp [nums, this])
      rw [hcs, e4, List.take_zero, List.nil_append, List.append_nil]
    rw [e3]
    have hP2 : Hid (Past g t (w.drew.setRow g (nums .i64 (al.drop (al.length - 79))).toArray) (al.drop (al.length - 79))) :=
      ⟨setRow_heap w.drew g _ _ t _ (blk_drew HP.out.box), by simp; omega⟩
    have hG2 : Hid (w.grownBy (w.drew.setRow g (nums .i64 (al.drop (al.length - 79))).toArray) (some g)) := by
      have h1 : w.grownBy w.drew (some g) := ⟨rfl, rfl, rfl, Nat.le_refl _, fun k _ _ => rfl⟩
      exact h1.trans (grown_setRow _)
    generalize (w.drew.setRow g (nums .i64 (al.drop (al.length - 79))).toArray) = W at hP2 hG2 ⊢
    go_wp2
    go_end0
    exact ⟨rfl, hP2.out, hG2.out⟩
end Go.Proofs.YtojlgjdebokelabH

namespace Go.Proofs.YtojlgjdebokelabH
open Go.RowKit Go.Proofs.YtojlgjdebokelabW.PrintWords Go.Proofs.YtojlgjdebokelabW.PrintMore Go.Proofs.YtojlgjdebokelabW
/-- The sum of products of what stands a ahead and what stands b ahead. -/
def smv (al : List Int) (a b : Nat) : Nat → Int
  | 0 => 0
  | k + 1 => wrap64 (smv al a b k + wrap64 (rd al ((79 + k - a : Nat) : Int) * rd al ((79 + k - b : Nat) : Int)))
set_option maxRecDepth 100000 in
set_option maxHeartbeats 2000000 in
theorem sum_any (B h c a b : Nat) (al : List Int) (w : World) (hB : w.cell? ⟨B, 0, none⟩ = some (.slice (some ⟨h, 0, none⟩) al.length c))
    (hR : Kd.R (Kd.int .i64) 2 w 0 (fun k => k = h) (.slice (some ⟨h, 0, none⟩) al.length c) al) (ha : a ≤ 79) (hb : b ≤ 79) (hl : 79 ≤ al.length) (hle : al.length ≤ 1000) :
    Calls Try.prog 88 #[.int .i64 a, .int .i64 b, .pointer (some ⟨B, 0, none⟩)] w fun e w' => e = .returned (.int .i64 (smv al a b (al.length - 79))) ∧ ∃ n, w' = w.drewN n := by
  have HR := Lib.hid hR
  clear hR
  go_enter Try.func88, Try.ntmps88
  go_wp2
  go_loopg [6, 7] (al.length - 79) (fun gk s6 s7 wr => ∃ (k : Nat) (q : Int) (n : Nat), k ≤ al.length - 79 ∧ gk = al.length - 79 - k ∧ s7 = .int .i64 (79 + (k : Int)) ∧ s6 = .int .i64 q ∧ Hid (q = smv al a b k) ∧ wr = w.drewN n)
  case atStart => exact ⟨0, 0, 0, by omega, rfl, by simp, rfl, rfl, rfl⟩
  case round =>
    obtain ⟨k, q, n, hk, rfl, rfl, rfl, hq, rfl⟩ := hrel
    by_cases hlt : k < al.length - 79
    · have h1 : (79 : Int) + (k : Int) < (al.length : Int) := by omega
      have ca := (Kd.R_celln (0 : Int) HR.out ((79 + k - a : Nat) : Int) (by omega) (by omega)).1
      have cb := (Kd.R_celln (0 : Int) HR.out ((79 + k - b : Nat) : Int) (by omega) (by omega)).1
      rw [Int.toNat_natCast] at ca cb
      have hstep : Hid (smv al a b (k + 1) = wrap64 (q + wrap64 (rd al ((79 + k - a : Nat) : Int) * rd al ((79 + k - b : Nat) : Int)))) := by show _ = _; rw [hq.out]; rfl
      change _ = some (Value.int .i64 (rd al ((79 + k - a : Nat) : Int))) at ca
      change _ = some (Value.int .i64 (rd al ((79 + k - b : Nat) : Int))) at cb
      generalize rd al ((79 + k - a : Nat) : Int) = x at ca hstep
      generalize rd al ((79 + k - b : Nat) : Int) = y at cb hstep
      have a1 : IntKind.i64.wrap (79 + (k : Int) - (a : Int)) = 79 + (k : Int) - (a : Int) := IntWalk.i64_in _ (by omega)
      have b1 : IntKind.i64.wrap (79 + (k : Int) - (b : Int)) = 79 + (k : Int) - (b : Int) := IntWalk.i64_in _ (by omega)
      have a2 : (0 : Int) ≤ 79 + (k : Int) - (a : Int) := by omega
      have b2 : (0 : Int) ≤ 79 + (k : Int) - (b : Int) := by omega
      have a3 : 79 + (k : Int) - (a : Int) < (al.length : Int) := by omega
      have b3 : 79 + (k : Int) - (b : Int) < (al.length : Int) := by omega
      have a4 : (79 + (k : Int) - (a : Int)).toNat = 79 + k - a := by omega
      have b4 : (79 + (k : Int) - (b : Int)).toNat = 79 + k - b := by omega
      go_wp2_with fail
      go_quiet (fail)
      go_wp2
      go_roundg (al.length - 79 - (k + 1))
      case measure => omega
      case rel => exact ⟨k + 1, _, _, hlt, rfl, congrArg (Value.int .i64) (by push_cast; omega), rfl, hstep.out.symm, rfl⟩
    · obtain rfl : k = al.length - 79 := by omega
      have h1 : ¬ (79 : Int) + ((al.length - 79 : Nat) : Int) < (al.length : Int) := by omega
      go_wp2
      go_ret
      exact ⟨by rw [hq.out]; rfl, _, rfl⟩
end Go.Proofs.YtojlgjdebokelabH

namespace Go.Proofs.YtojlgjdebokelabH
open Go.RowKit Go.Proofs.YtojlgjdebokelabW.PrintWords Go.Proofs.YtojlgjdebokelabW.PrintMore Go.Proofs.YtojlgjdebokelabW
open Go.Proofs.Ytojlgjdebokelab.PLib6
def strv (c re rd : Int) : Int :=
  if c ≤ 0 ∨ wrap64 (re * rd) ≤ 0 then 0 else
    let q := wrap64 (Int.tdiv (wrap64 (c * 256)) (wrap64 (re * rd)))
    (if q ≥ 140 then 1 else 0) + (if q ≥ 192 then 1 else 0) + (if q ≥ 230 then 1 else 0)
set_option maxRecDepth 100000 in
set_option maxHeartbeats 2000000 in
theorem strength_any (c e d re rd : Int) (w : World) (he : logs_Root.f 40 e = some re) (hd : logs_Root.f 40 d = some rd) (hre : 0 ≤ re ∧ re ≤ 4294967295) (hrd : 0 ≤ rd ∧ rd ≤ 4294967295) :
    Calls Try.prog 89 #[.int .i64 c, .int .u64 e, .int .u64 d] w fun e w' => e = .returned (.int .i64 (strv c re rd)) ∧ ∃ n, w' = w.drewN n := by
  have q0 : ∀ w, (Instr.index 161 (.agg #[.int .i64 140, .int .i64 192, .int .i64 230]) (.int .i64 0)).run Try.prog w = .ok (.int .i64 140) w := fun _ => by kernel_rfl
  have q1 : ∀ w, (Instr.index 161 (.agg #[.int .i64 140, .int .i64 192, .int .i64 230]) (.int .i64 1)).run Try.prog w = .ok (.int .i64 192) w := fun _ => by kernel_rfl
  have q2 : ∀ w, (Instr.index 161 (.agg #[.int .i64 140, .int .i64 192, .int .i64 230]) (.int .i64 2)).run Try.prog w = .ok (.int .i64 230) w := fun _ => by kernel_rfl
  have C1 := Lib.hid (fun W => logs_Root.calls 40 e re W he)
  have C2 := Lib.hid (fun W => logs_Root.calls 40 d rd W hd)
  obtain ⟨a0, a1⟩ := hre
  obtain ⟨b0, b1⟩ := hrd
  clear he hd
  have hs : Hid (strv c re rd = strv c re rd) := rfl
  generalize hse : strv c re rd = res at hs
  have Hse := Lib.hid hse
  clear hse hs
  go_enter Try.func89, Try.ntmps89
  go_wp2_with fail
  refine (C1.out _).mono ?_
  rintro e1 w1 ⟨rfl, hw⟩
  obtain ⟨n1, rfl⟩ := hw.out
  go_wp2_with fail
  refine (C2.out _).mono ?_
  rintro e1 w1 ⟨rfl, hw⟩
  obtain ⟨n2, rfl⟩ := hw.out
  clear C1 C2
  by_cases c1 : c ≤ 0
  · have g1 : decide (c ≤ 0) = true := by simpa using c1
    have hr : Hid (res = 0) := by show _ = _; rw [← Hse.out]; unfold strv; rw [if_pos (.inl c1)]
    go_wp2
    go_ret
    exact ⟨by rw [hr.out]; rfl, _, rfl⟩
  · have g1 : decide (c ≤ 0) = false := by simpa using c1
    by_cases c2 : wrap64 (re * rd) ≤ 0
    · have g2 : decide (wrap64 (re * rd) ≤ 0) = true := by simpa using c2
      have hr : Hid (res = 0) := by show _ = _; rw [← Hse.out]; unfold strv; rw [if_pos (.inr c2)]
      go_wp2
      go_ret
      exact ⟨by rw [hr.out]; rfl, _, rfl⟩
    · have g2 : decide (wrap64 (re * rd) ≤ 0) = false := by simpa using c2
      have hz : wrap64 (re * rd) ≠ 0 := by omega
      have hr : Hid (res = (if wrap64 (Int.tdiv (wrap64 (c * 256)) (wrap64 (re * rd))) ≥ 140 then 1 else 0) + (if wrap64 (Int.tdiv (wrap64 (c * 256)) (wrap64 (re * rd))) ≥ 192 then 1 else 0) + (if wrap64 (Int.tdiv (wrap64 (c * 256)) (wrap64 (re * rd))) ≥ 230 then 1 else 0)) := by
        show _ = _; rw [← Hse.out]; unfold strv; rw [if_neg (by rintro (h | h) <;> contradiction)]
      go_wp2
      generalize wrap64 (Int.tdiv (wrap64 (c * 256)) (wrap64 (re * rd))) = q at hr ⊢
      have h1 : Hid ((if q ≥ 140 then (1 : Int) else 0) = (if q ≥ 140 then 1 else 0)) := rfl
      have h2 : Hid ((if q ≥ 192 then (1 : Int) else 0) = (if q ≥ 192 then 1 else 0)) := rfl
      have h3 : Hid ((if q ≥ 230 then (1 : Int) else 0) = (if q ≥ 230 then 1 else 0)) := rfl
      generalize ht1 : (if q ≥ 140 then (1 : Int) else 0) = t1 at hr h1
      generalize ht2 : (if q ≥ 192 then (1 : Int) else 0) = t2 at hr h2
      generalize ht3 : (if q ≥ 230 then (1 : Int) else 0) = t3 at hr h3
      have T1 := Lib.hid ht1
      have T2 := Lib.hid ht2
      have T3 := Lib.hid ht3
      have b1 : 0 ≤ t1 ∧ t1 ≤ 1 := by rw [← ht1]; split <;> omega
      have b2 : 0 ≤ t2 ∧ t2 ≤ 1 := by rw [← ht2]; split <;> omega
      have b3 : 0 ≤ t3 ∧ t3 ≤ 1 := by rw [← ht3]; split <;> omega
      obtain ⟨b10, b11⟩ := b1
      obtain ⟨b20, b21⟩ := b2
      obtain ⟨b30, b31⟩ := b3
      clear ht1 ht2 ht3 h1 h2 h3 c1 c2 g1 g2 hz hw
      go_loopg [9, 11, 30] 3 (fun gk s9 s11 s30 wr => wr = w.drewN (n1 + n2) ∧ ((gk = 3 ∧ s30 = .int .i64 0 ∧ s9 = .int .i64 0) ∨ (gk = 2 ∧ s30 = .int .i64 1 ∧ s9 = .int .i64 t1) ∨ (gk = 1 ∧ s30 = .int .i64 2 ∧ s9 = .int .i64 (t1 + t2)) ∨ (gk = 0 ∧ s30 = .int .i64 3 ∧ s9 = .int .i64 (t1 + t2 + t3))))
      case atStart => exact ⟨rfl, .inl ⟨rfl, rfl, rfl⟩⟩
      case round =>
        obtain ⟨rfl, h⟩ := hrel
        rcases h with ⟨rfl, rfl, rfl⟩ | ⟨rfl, rfl, rfl⟩ | ⟨rfl, rfl, rfl⟩ | ⟨rfl, rfl, rfl⟩
        · by_cases hc : q ≥ 140
          · have ht : Hid (t1 = 1) := by show _ = _; rw [← T1.out, if_pos hc]
            go_wp2
            go_roundg 2
            case measure => omega
            case rel => exact ⟨rfl, .inr (.inl ⟨rfl, rfl, by rw [ht.out]⟩)⟩
          · have ht : Hid (t1 = 0) := by show _ = _; rw [← T1.out, if_neg hc]
            go_wp2
            go_roundg 2
            case measure => omega
            case rel => exact ⟨rfl, .inr (.inl ⟨rfl, rfl, by rw [ht.out]⟩)⟩
        · by_cases hc : q ≥ 192
          · have ht : Hid (t2 = 1) := by show _ = _; rw [← T2.out, if_pos hc]
            go_wp2
            go_roundg 1
            case measure => omega
            case rel => exact ⟨rfl, .inr (.inr (.inl ⟨rfl, rfl, by rw [ht.out]⟩))⟩
          · have ht : Hid (t2 = 0) := by show _ = _; rw [← T2.out, if_neg hc]
            go_wp2
            go_roundg 1
            case measure => omega
            case rel => exact ⟨rfl, .inr (.inr (.inl ⟨rfl, rfl, by rw [ht.out]; simp⟩))⟩
        · by_cases hc : q ≥ 230
          · have ht : Hid (t3 = 1) := by show _ = _; rw [← T3.out, if_pos hc]
            go_wp2
            go_roundg 0
            case measure => omega
            case rel => exact ⟨rfl, .inr (.inr (.inr ⟨rfl, rfl, by rw [ht.out]⟩))⟩
          · have ht : Hid (t3 = 0) := by show _ = _; rw [← T3.out, if_neg hc]
            go_wp2
            go_roundg 0
            case measure => omega
            case rel => exact ⟨rfl, .inr (.inr (.inr ⟨rfl, rfl, by rw [ht.out]; simp⟩))⟩
        · go_wp2
          go_ret
          exact ⟨by rw [hr.out]; rfl, _, rfl⟩
end Go.Proofs.YtojlgjdebokelabH

namespace Go.Proofs.YtojlgjdebokelabH
open Go.RowKit Go.Proofs.YtojlgjdebokelabW.PrintWords Go.Proofs.YtojlgjdebokelabW.PrintMore Go.Proofs.YtojlgjdebokelabW
open Go.Proofs.Ytojlgjdebokelab.PLib6
def huntv (al : List Int) (n : Nat) : Nat → Nat × Int
  | 0 => (16, smv al 0 16 n)
  | k + 1 => if smv al 0 (17 + k) n > (huntv al n k).2 then (17 + k, smv al 0 (17 + k) n) else huntv al n k
theorem huntv_bd (al : List Int) (n : Nat) : ∀ k, (huntv al n k).1 ≤ 16 + k
  | 0 => Nat.le_refl _
  | k + 1 => by
    have := huntv_bd al n k
    unfold huntv
    split
    · show 17 + k ≤ _; omega
    · omega
/-- A row that is being filled: k of x are in, zeros behind. -/
def fillv (x : List Int) (k : Nat) : List Int := x.take k ++ List.replicate (x.length - k) 0
theorem fillv_len (x : List Int) (k : Nat) (h : k ≤ x.length) : (fillv x k).length = x.length := by unfold fillv; simp; omega
theorem fillv_zero (x : List Int) : fillv x 0 = List.replicate x.length 0 := by unfold fillv; simp
theorem fillv_all (x : List Int) : fillv x x.length = x := by unfold fillv; simp
theorem fillv_step (x : List Int) (k : Nat) (h : k < x.length) : (fillv x k).set k (rd x (k : Int)) = fillv x (k + 1) := by
  unfold fillv
  rw [List.set_append_right _ _ (by simp; omega)]
  have e1 : (x.take k).length = k := by simp; omega
  rw [e1, Nat.sub_self]
  have e2 : List.replicate (x.length - k) (0 : Int) = 0 :: List.replicate (x.length - (k + 1)) 0 := by
    rw [← List.replicate_succ]; congr 1; omega
  rw [e2, List.set_cons_zero, List.take_succ_eq_append_getElem h, List.append_assoc]
  congr 2
  unfold rd
  rw [List.getD_eq_getElem?_getD, Int.toNat_natCast, List.getElem?_eq_getElem h]; rfl
theorem two_put {w : World} {g : Nat} {t : TypeId} {a b : Int} (h : w.heap[g]? = some (.cells #[.int .i64 a, .int .i64 b] t (0, 0))) (a' b' : Int) :
    ((w.setCell ⟨g, 0, none⟩ (.int .i64 a')).setCell ⟨g, 1, none⟩ (.int .i64 b')).heap[g]? = some (.cells #[.int .i64 a', .int .i64 b'] t (0, 0)) :=
  blk_put (blk_put h 0 _ rfl) 1 _ rfl
structure HfRel (g W n : Nat) (w wr : World) (l ys : List Int) : Prop where
  out : wr.heap[w.heap.size]? = some (.cells #[.int .i64 0, .int .i64 0] 42 (0, 0))
  past : Past g 139 wr l
  row : Kd.R (Kd.int .i64) 2 wr w.heap.size (fun k => k = W) (.slice (some ⟨W, 0, none⟩) n n) ys
  ne : W ≠ g ∧ W ≠ w.heap.size ∧ g < w.heap.size ∧ w.heap.size ≤ W
  below : Below w.heap.size w wr
theorem HfRel.put {g W n : Nat} {w wr : World} {l ys : List Int} (h : HfRel g W n w wr l ys) (j : Nat) (x : Int) : HfRel g W n w (wr.setCell ⟨W, j, none⟩ (.int .i64 x)) l (ys.set j x) := by
  obtain ⟨h1, h2, h3, h4⟩ := h.ne
  have hp := Kd.R_putn h.row (j : Int) x
  rw [Int.toNat_natCast] at hp
  exact ⟨blk_far h.out (Ne.symm h2) _, ⟨blk_far h.past.box (Ne.symm h1) _, h.past.len⟩, hp, h.ne, h.below.setCell h4 _⟩
theorem rowC {α : Type} {d : Kd α} {e base c n : Nat} {ok : Nat → Prop} {w : World} {A : Option Addr} {xs : List α} (h : d.R e w base ok (.slice A n c) xs) : d.C w A xs.length xs := by
  obtain ⟨A', c', e, h1, h2⟩ := Kd.R_reads h
  injection e with e1 _ e2
  subst e1
  exact h2
set_option maxRecDepth 100000 in
set_option maxHeartbeats 4000000 in
theorem hfeed_any (g c : Nat) (A : Option Addr) (l x : List Int) (w : World) (hP : Past g 139 w l) (hC : Kd.C (Kd.int .i16) w A x.length x) (hx : ∀ v ∈ x, I16 v) (h0 : 0 < x.length) (h1 : x.length ≤ 120)
    (lag : Nat) (best re rdv st : Int) (hl : huntv (l ++ x) x.length 63 = (lag, best)) (he : logs_Root.f 40 (IntKind.u64.wrap (smv (l ++ x) 0 0 x.length)) = some re) (hd : logs_Root.f 40 (IntKind.u64.wrap (smv (l ++ x) lag lag x.length)) = some rdv)
    (hre : 0 ≤ re ∧ re ≤ 4294967295) (hrd : 0 ≤ rdv ∧ rdv ≤ 4294967295) (hst : strv best re rdv = st) :
    Calls Try.prog 55 #[.pointer (some ⟨g, 0, none⟩), .slice A x.length c] w fun e w' => e = .returned (.tuple #[if st = 0 then .agg #[.int .i64 0, .int .i64 0] else .agg #[.int .i64 lag, .int .i64 st], .int .i64 0]) ∧ Past g 139 w' ((l ++ x).drop x.length) ∧ w.grownBy w' (some g) := by
  have HP := Lib.hid hP
  have HC := Lib.hid hC
  have HX := Lib.hid hx
  have HL := Lib.hid hl
  have HE := Lib.hid he
  have HD := Lib.hid hd
  have HS := Lib.hid hst
  have hgl := blk_lt hP.box
  have hll := hP.len
  have Hll := Lib.hid hll
  clear hP hC hx hl he hd hst hll
  have h120 : ¬ (120 : Int) < (x.length : Int) := by omega
  have hmk : ∀ W : World, (Instr.makeSlice 37 (.int .i64 (x.length : Int)) (.int .i64 (x.length : Int))).run Try.prog W = .ok (.slice (some ⟨W.heap.size, 0, none⟩) x.length x.length) (W.alloc (.cells (madeCells #[.int .i64 0] x.length) 2)) := fun W => print_make 37 2 .i64 8 Try.underlying37 clone64_info (by decide) x.length (by omega) W
  have hst0 : Hid (HfRel g (w.heap.size + 1) x.length w ((w.alloc (.cells #[.int .i64 0, .int .i64 0] 42)).alloc (.cells (madeCells #[.int .i64 0] x.length) 2)) l (fillv x 0)) := by
    refine ⟨blk_alloc (heap_alloc_new w _) _, ⟨blk_alloc (blk_alloc HP.out.box _) _, Hll.out⟩, ?_, ⟨by omega, by omega, by omega, by omega⟩, ((Below.refl _ _).alloc (Nat.le_refl _) _).alloc (by simp) _⟩
    rw [fillv_zero]
    have h := own_made' (w.alloc (.cells #[.int .i64 0, .int .i64 0] 42)) w.heap.size 2 .i64 x.length (by simp) (by omega)
    have e : (w.alloc (.cells #[.int .i64 0, .int .i64 0] 42)).heap.size = w.heap.size + 1 := by simp
    rw [e] at h
    exact Kd.R_of_own h (fun k hk => by simpa [Value.ownBlock] using hk.symm)
  go_enter Try.func55, Try.ntmps55
  go_wp2
  go_loopg [7, 8, 30] x.length (fun gk s7 s8 s30 wr => ∃ k : Nat, k ≤ x.length ∧ gk = x.length - k ∧ s30 = .int .i64 k ∧ HfRel g (w.heap.size + 1) x.length w wr l (fillv x k))
  case atStart => exact ⟨0, by omega, rfl, rfl, hst0.out⟩
  case round =>
    clear hst0
    obtain ⟨k, hk, rfl, rfl, hM⟩ := hrel
    by_cases hlt : k < x.length
    · have hkl : (k : Int) < (x.length : Int) := by omega
      have hk0 : (0 : Int) ≤ (k : Int) := by omega
      obtain ⟨ad, rfl, hc⟩ := Kd.at_int (Kd.C_below HC.out hM.below) (k : Int) hk0 hkl
      have hxx : I16 (rd x k) := HX.out _ (rd_mem x k hk0 hkl)
      have hstep := Lib.hid (fillv_step x k hlt)
      have c0 : ∃ u, wr.cell? ⟨w.heap.size + 1, k, none⟩ = some u := by
        have := (Kd.R_celln (0 : Int) hM.row (k : Int) hk0 hkl).1
        rw [Int.toNat_natCast] at this
        exact ⟨_, this⟩
      obtain ⟨u, c0⟩ := c0
      have g0 : wr.frozen? ⟨w.heap.size + 1, k, none⟩ = false := by
        have := (Kd.R_celln (0 : Int) hM.row (k : Int) hk0 hkl).2
        rwa [Int.toNat_natCast] at this
      generalize rd x k = v at hc hxx hstep
      rw [Int.toNat_natCast] at hc
      obtain ⟨xb0, xb1⟩ := id hxx
      clear hxx
      have hM2 := Lib.hid (hM.put k v)
      rw [hstep.out] at hM2
      clear hM
      go_wp2
      go_roundg (x.length - (k + 1))
      case measure => omega
      case rel => exact ⟨k + 1, hlt, rfl, by push_cast; rfl, hM2.out⟩
    · obtain rfl : k = x.length := by omega
      have hkl : ¬ (x.length : Int) < (x.length : Int) := by omega
      have hM2 := Lib.hid hM
      rw [fillv_all] at hM2
      clear hM
      go_wp2_with fail
      refine (with_any g 139 l (some ⟨w.heap.size + 1, 0, none⟩) x.length x _ hM2.out.past (rowC hM2.out.row) (by omega)).mono ?_
      rintro e w2 ⟨v, rfl, hR, hB⟩
      have hpast := Lib.hid (hM2.out.past.under hB)
      have hout := Lib.hid (blk_below hM2.out.out hB)
      have hsz : w.heap.size ≤ wr.heap.size := hM2.out.below.size
      have hsz2 : wr.heap.size ≤ w2.heap.size := hB.size
      have hbel := Lib.hid (below_then hM2.out.below hsz hB)
      obtain ⟨h, c2, rfl, hh1, hh2, hR⟩ := R_fixed hR (by rw [List.length_append]; omega)
      have hal : (l ++ x).length = 79 + x.length := by rw [List.length_append, Hll.out]
      generalize hale : l ++ x = al at hal hR HL HE HD ⊢
      have Hale := Lib.hid hale
      clear hale
      have Hal := Lib.hid hal
      clear hal
      replace hR := Lib.hid (Kd.R_lower hR (Nat.zero_le _))
      have hbox := Lib.hid (heap_alloc_new w2 (.cells #[.slice (some ⟨h, 0, none⟩) al.length c2] 37))
      replace hpast := Lib.hid (hpast.out.under ((Below.refl _ _).alloc (Nat.le_refl _) (.cells #[.slice (some ⟨h, 0, none⟩) al.length c2] 37)))
      replace hout := Lib.hid (blk_alloc hout.out (.cells #[.slice (some ⟨h, 0, none⟩) al.length c2] 37))
      replace hbel := Lib.hid (hbel.out.alloc (by omega) (.cells #[.slice (some ⟨h, 0, none⟩) al.length c2] 37))
      replace hR := Lib.hid (Kd.R_alloc hR.out (.cells #[.slice (some ⟨h, 0, none⟩) al.length c2] 37))
      have hgh : g ≠ h := by omega
      clear hM2 hB
      generalize hWe : w2.alloc (.cells #[.slice (some ⟨h, 0, none⟩) al.length c2] 37) = W at hbox hpast hout hbel hR
      have HWe := Lib.hid hWe
      clear hWe
      go_wp2_with fail
      rw [HWe.out]
      have hn79 : al.length - 79 = x.length := by have := Hal.out; omega
      have CL : Hid (∀ (a b n : Nat), a ≤ 79 → b ≤ 79 → Calls Try.prog 88 #[.int .i64 a, .int .i64 b, .pointer (some ⟨w2.heap.size, 0, none⟩)] (W.drewN n) fun e w' => e = .returned (.int .i64 (smv al a b x.length)) ∧ ∃ m, w' = W.drewN (n + m)) := by
        intro a b n ha hb
        have := sum_any w2.heap.size h c2 a b al (W.drewN n) (blk_cell (blk_drewN hbox.out n) 0) (Kd.R_drewN hR.out n) ha hb (by have := Hal.out; omega) (by have := Hal.out; omega)
        rw [hn79] at this
        exact this.mono fun e w' hh => ⟨hh.1, by obtain ⟨m, hm⟩ := hh.2; exact ⟨m, by rw [hm]; simp⟩⟩
      refine (CL.out 0 16 0 (by omega) (by omega)).mono ?_
      rintro e w3 ⟨rfl, n1, rfl⟩
      rw [Nat.zero_add]
      go_wp2_with fail
      go_loopg [11, 12, 13, 14] 63 (fun gk s11 s12 s13 s14 wr => ∃ (k n lg : Nat) (bs : Int), k ≤ 63 ∧ gk = 63 - k ∧ s13 = .int .i64 (17 + (k : Int)) ∧ s11 = .int .i64 lg ∧ s12 = .int .i64 bs ∧ Hid (huntv al x.length k = (lg, bs)) ∧ wr = W.drewN n)
      case atStart => exact ⟨0, n1, 16, smv al 0 16 x.length, by omega, rfl, by simp, rfl, rfl, rfl, rfl⟩
      case round =>
        obtain ⟨k, n, lg, bs, hk, rfl, rfl, rfl, rfl, hq, rfl⟩ := hrel
        by_cases hlt : k < 63
        · have hk1 : (17 : Int) + (k : Int) ≤ 79 := by omega
          have C1 := Lib.hid (CL.out 0 (17 + k) n (by omega) (by omega))
          rw [show ((17 + k : Nat) : Int) = 17 + (k : Int) by omega] at C1
          have hstep : Hid (huntv al x.length (k + 1) = if smv al 0 (17 + k) x.length > bs then (17 + k, smv al 0 (17 + k) x.length) else (lg, bs)) := by
            show _ = _
            simp only [huntv, hq.out]
          generalize smv al 0 (17 + k) x.length = sv at C1 hstep
          go_wp2_with fail
          refine C1.out.mono ?_
          rintro e w4 ⟨rfl, n2, rfl⟩
          clear C1
          by_cases hc : sv > bs
          · have hs2 : Hid (huntv al x.length (k + 1) = (17 + k, sv)) := by show _ = _; rw [hstep.out, if_pos hc]
            go_wp2
            go_roundg (63 - (k + 1))
            case measure => omega
            case rel => exact ⟨k + 1, _, 17 + k, sv, hlt, rfl, congrArg (Value.int .i64) (by push_cast; omega), congrArg (Value.int .i64) (by push_cast; rfl), rfl, hs2, rfl⟩
          · have hs2 : Hid (huntv al x.length (k + 1) = (lg, bs)) := by show _ = _; rw [hstep.out, if_neg hc]
            go_wp2
            go_roundg (63 - (k + 1))
            case measure => omega
            case rel => exact ⟨k + 1, _, lg, bs, hlt, rfl, congrArg (Value.int .i64) (by push_cast; omega), rfl, rfl, hs2, rfl⟩
        · obtain rfl : k = 63 := by omega
          have hlb : lg = lag ∧ bs = best := by
            have e1 := hq.out
            rw [HL.out] at e1
            injection e1 with e1 e2
            exact ⟨e1.symm, e2.symm⟩
          obtain ⟨rfl, rfl⟩ := hlb
          have hlg := huntv_bd al x.length 63
          rw [hq.out] at hlg
          have hlg : lg ≤ 79 := hlg
          go_wp2_with fail
          refine (CL.out 0 0 n (by omega) (by omega)).mono ?_
          rintro e w4 ⟨rfl, n2, rfl⟩
          go_wp2_with fail
          refine (CL.out lg lg _ hlg hlg).mono ?_
          rintro e w4 ⟨rfl, n3, rfl⟩
          go_wp2_with fail
          have hS := strength_any bs _ _ re rdv (W.drewN (n + n2 + n3)) HE.out HD.out hre hrd
          rw [HS.out] at hS
          refine hS.mono ?_
          rintro e w5 ⟨rfl, n4, rfl⟩
          clear CL hS
          have hn : ∃ N, n + n2 + n3 + n4 = N := ⟨_, rfl⟩
          rw [show (W.drewN (n + n2 + n3)).drewN n4 = W.drewN (n + n2 + n3 + n4) from by simp]
          generalize n + n2 + n3 + n4 = N
          have P2 : Hid (Past g 139 (W.drewN N) l) := ⟨blk_drewN hpast.out.box N, hpast.out.len⟩
          have O2 := Lib.hid (blk_drewN hout.out N)
          have B2 := Lib.hid (pw_below_drewN hbel.out N)
          have R2 := Lib.hid (Kd.R_drewN hR.out N)
          have b0 : (W.drewN N).cell? ⟨w2.heap.size, 0, none⟩ = some (.slice (some ⟨h, 0, none⟩) al.length c2) := blk_cell (blk_drewN hbox.out N) 0
          clear hn hR hbel hout hpast hbox
          generalize W.drewN N = V at P2 O2 B2 R2 b0 ⊢
          go_wp2_with fail
          go_still_tail 4, (by kernel_rfl)
          change wpList _ _ _ _ _ V.drew
          replace P2 : Hid (Past g 139 V.drew l) := ⟨blk_drew P2.out.box, P2.out.len⟩
          replace O2 := Lib.hid (blk_drew O2.out)
          replace B2 := Lib.hid (below_drew1 B2.out)
          replace R2 := Lib.hid (Kd.R_drewN R2.out 1)
          go_wp2_with fail
          refine (keep_any g 139 h c2 l al _ P2.out R2.out (by have := Hal.out; omega) (by have := Hal.out; omega) hgh).mono ?_
          rintro e w5 ⟨rfl, hP5, hG5⟩
          have O5 : w5.heap[w.heap.size]? = some (.cells #[.int .i64 0, .int .i64 0] 42 (0, 0)) := blk_grown O2.out hG5 (by intro e; injection e with e; omega)
          have hP6 : Hid (Past g 139 w5 (al.drop x.length)) := by rw [hn79] at hP5; exact hP5
          have hG6 : Hid (w.grownBy w5 (some g)) := (grown_of_below B2.out (some g)).trans hG5
          have o0 : w5.cell? ⟨w.heap.size, 0, none⟩ = some (.int .i64 0) := blk_cell O5 0
          have o1 : w5.cell? ⟨w.heap.size, 1, none⟩ = some (.int .i64 0) := blk_cell O5 1
          have of := blk_frozen O5
          clear hP5 hG5 P2 O2 B2 R2 b0 hq HE HD HL
          by_cases hz : st = 0
          · go_wp2
            refine bodyPost_ret (v := .tuple #[.agg #[.int .i64 0, .int .i64 0], .int .i64 0]) (results_list (rs := [.cell 4 42, .tmp 5]) rfl (by simp) (.cell w.heap.size 42 _ (0, 0) _ rfl (two_put O5 _ _) Try.underlying42 rfl (by kernel_rfl) (.tmp .nil))) rfl ⟨rfl, (by rw [Hale.out]; exact ⟨blk_far (blk_far hP6.out.box (by show g ≠ w.heap.size; omega) _) (by show g ≠ w.heap.size; omega) _, hP6.out.len⟩), grown_setCell (grown_setCell hG6.out (.inr (Nat.le_refl _)) _) (.inr (Nat.le_refl _)) _⟩
          · have hz2 : (st == 0) = false := by simpa using hz
            go_wp2
            refine bodyPost_ret (v := .tuple #[.agg #[.int .i64 lg, .int .i64 st], .int .i64 0]) (results_list (rs := [.cell 4 42, .tmp 5]) rfl (by simp) (.cell w.heap.size 42 _ (0, 0) _ rfl (two_put O5 _ _) Try.underlying42 rfl (by kernel_rfl) (.tmp .nil))) rfl ⟨rfl, (by rw [Hale.out]; exact ⟨blk_far (blk_far hP6.out.box (by show g ≠ w.heap.size; omega) _) (by show g ≠ w.heap.size; omega) _, hP6.out.len⟩), grown_setCell (grown_setCell hG6.out (.inr (Nat.le_refl _)) _) (.inr (Nat.le_refl _)) _⟩
end Go.Proofs.YtojlgjdebokelabH

namespace Go.Proofs.YtojlgjdebokelabH
open Go.RowKit Go.Proofs.YtojlgjdebokelabW.PrintWords Go.Proofs.YtojlgjdebokelabW.PrintMore Go.Proofs.YtojlgjdebokelabW
open Go.Proofs.Ytojlgjdebokelab.PLib6
set_option maxRecDepth 100000 in
theorem newhunter_any (w : World) : Calls Try.prog 54 #[] w fun e w' => e = .returned (.pointer (some ⟨w.heap.size, 0, none⟩)) ∧ Past w.heap.size 139 w' (List.replicate 79 0) ∧ Below w.heap.size w w' := by
  go_enter Try.func54, Try.ntmps54
  go_wp2
  go_ret
  exact ⟨rfl, ⟨heap_alloc_new w _, rfl⟩, (Below.refl _ _).alloc (Nat.le_refl _) _⟩
set_option maxRecDepth 100000 in
theorem newcomb_any (w : World) : Calls Try.prog 14 #[] w fun e w' => e = .returned (.pointer (some ⟨w.heap.size, 0, none⟩)) ∧ Past w.heap.size 100 w' (List.replicate 79 0) ∧ Below w.heap.size w w' := by
  go_enter Try.func14, Try.ntmps14
  go_wp2
  go_ret
  exact ⟨rfl, ⟨heap_alloc_new w _, rfl⟩, (Below.refl _ _).alloc (Nat.le_refl _) _⟩
def Pok (a b : Int) : Prop := (a = 0 ∧ b = 0) ∨ (1 ≤ b ∧ b ≤ 3 ∧ 16 ≤ a ∧ a ≤ 79)
instance (a b : Int) : Decidable (Pok a b) := inferInstanceAs (Decidable (_ ∨ _))
theorem pcheck_any (a b : Int) (w : World) : Calls Try.prog 17 #[.agg #[.int .i64 a, .int .i64 b]] w fun e w' => e = .returned (.int .i64 (if Pok a b then 0 else 1)) ∧ Below w.heap.size w w' := by
  refine pitch_Check.calls a b _ w ?_
  unfold pitch_Check.f
  by_cases h0 : a = 0 ∧ b = 0
  · rw [if_pos (by simp [h0.1, h0.2]), if_pos (.inl h0)]
  · rw [if_neg (by simpa using h0)]
    by_cases h1 : b < 1
    · rw [if_pos h1, if_neg (by rintro (h | h); exact h0 h; omega)]
    rw [if_neg h1]
    by_cases h2 : b > 3
    · rw [if_pos h2, if_neg (by rintro (h | h); exact h0 h; omega)]
    rw [if_neg h2]
    by_cases h3 : a < 16
    · rw [if_pos h3, if_neg (by rintro (h | h); exact h0 h; omega)]
    rw [if_neg h3]
    by_cases h4 : a > 79
    · rw [if_pos h4, if_neg (by rintro (h | h); exact h0 h; omega)]
    rw [if_neg h4, if_pos (.inr ⟨by omega, by omega, by omega, by omega⟩)]
theorem rpcheck_any (a b : Int) (w : World) : Calls Try.prog 16 #[.agg #[.int .i64 a, .int .i64 b]] w fun e w' => e = .returned (.bool (decide (Pok a b))) ∧ Below w.heap.size w w' := by
  refine psalteryref18_Check.calls a b _ w ?_
  unfold psalteryref18_Check.f
  by_cases h0 : b = 0
  · rw [if_pos h0]
    congr 1
    rw [Bool.eq_iff_iff]; simp [Pok, h0]
  rw [if_neg h0]
  by_cases h1 : b ≥ 1
  · rw [if_pos h1]
    by_cases h2 : b ≤ 3
    · rw [if_pos h2]
      by_cases h3 : a ≥ 16
      · rw [if_pos h3]
        congr 1
        rw [Bool.eq_iff_iff]; simp [Pok, h0]; omega
      · rw [if_neg h3]; congr 1; rw [Bool.eq_iff_iff]; simp [Pok, h0]; omega
    · rw [if_neg h2]; congr 1; rw [Bool.eq_iff_iff]; simp [Pok, h0]; omega
  · rw [if_neg h1]; congr 1; rw [Bool.eq_iff_iff]; simp [Pok, h0]; omega
theorem w64_bd (n : Int) : -9223372036854775808 ≤ wrap64 n ∧ wrap64 n ≤ 9223372036854775807 := by unfold wrap64; omega
def cbv (al x : List Int) (lag str : Int) (i : Nat) : Int := clamp (rnd (wrap64 (wrap64 (rd x (i : Int) * (32768 - str * 4096)) + wrap64 (rd al ((79 + i - lag.toNat : Nat) : Int) * (str * 4096)))) 15) (-32768) 32767
def combL (al x : List Int) (lag str : Int) : List Int := (List.range x.length).map fun i => cbv al x lag str i
theorem combL_len (al x : List Int) (lag str : Int) : (combL al x lag str).length = x.length := by unfold combL; simp
theorem combL_rd (al x : List Int) (lag str : Int) (i : Nat) (h : i < x.length) : rd (combL al x lag str) (i : Int) = cbv al x lag str i := by
  unfold combL rd
  rw [Int.toNat_natCast, List.getD_eq_getElem?_getD]
  simp [h]
set_option maxRecDepth 100000 in
theorem cfeed_long (g c n : Nat) (A : Option Addr) (lag str : Int) (w : World) (h1 : 120 < n) :
    Calls Try.prog 15 #[.pointer (some ⟨g, 0, none⟩), .slice A n c, .agg #[.int .i64 lag, .int .i64 str]] w fun e w' => e = .returned (.tuple #[.slice none 0 0, .int .i64 2]) ∧ Below w.heap.size w w' := by
  have h120 : (120 : Int) < (n : Int) := by omega
  go_enter Try.func15, Try.ntmps15
  go_wp2
  go_ret2
  exact ⟨rfl, (Below.refl _ _).alloc (Nat.le_refl _) _⟩
set_option maxRecDepth 100000 in
theorem cfeed_bad (g c n : Nat) (A : Option Addr) (lag str : Int) (w : World) (h1 : n ≤ 120) (hp : ¬ Pok lag str) :
    Calls Try.prog 15 #[.pointer (some ⟨g, 0, none⟩), .slice A n c, .agg #[.int .i64 lag, .int .i64 str]] w fun e w' => e = .returned (.tuple #[.slice none 0 0, .int .i64 1]) ∧ Below w.heap.size w w' := by
  have h120 : ¬ (120 : Int) < (n : Int) := by omega
  have hb : Hid (Below w.heap.size w (w.alloc (.cells #[.int .i64 lag, .int .i64 str] 42))) := (Below.refl _ _).alloc (Nat.le_refl _) _
  have C := pcheck_any lag str (w.alloc (.cells #[.int .i64 lag, .int .i64 str] 42))
  rw [if_neg hp] at C
  have C := Lib.hid C
  go_enter Try.func15, Try.ntmps15
  go_wp2_with fail
  refine C.out.mono ?_
  rintro e w1 ⟨rfl, hb1⟩
  replace hb := Lib.hid (below_then hb.out (by simp) hb1)
  clear hb1 C
  go_wp2
  go_ret2
  exact ⟨rfl, hb.out⟩
structure CfRel (g W n : Nat) (w wr : World) (lag str : Int) (l ys : List Int) : Prop where
  box : wr.heap[w.heap.size]? = some (.cells #[.int .i64 lag, .int .i64 str] 42 (0, 0))
  past : Past g 100 wr l
  row : Kd.R (Kd.int .i64) 2 wr w.heap.size (fun k => k = W) (.slice (some ⟨W, 0, none⟩) n n) ys
  ne : W ≠ g ∧ W ≠ w.heap.size ∧ g < w.heap.size ∧ w.heap.size ≤ W
  below : Below w.heap.size w wr
theorem CfRel.put {g W n : Nat} {w wr : World} {lag str : Int} {l ys : List Int} (h : CfRel g W n w wr lag str l ys) (j : Nat) (x : Int) : CfRel g W n w (wr.setCell ⟨W, j, none⟩ (.int .i64 x)) lag str l (ys.set j x) := by
  obtain ⟨h1, h2, h3, h4⟩ := h.ne
  have hp := Kd.R_putn h.row (j : Int) x
  rw [Int.toNat_natCast] at hp
  exact ⟨blk_far h.box (Ne.symm h2) _, ⟨blk_far h.past.box (Ne.symm h1) _, h.past.len⟩, hp, h.ne, h.below.setCell h4 _⟩
theorem CfRel.under {g W n : Nat} {w wr w1 : World} {lag str : Int} {l ys : List Int} (h : CfRel g W n w wr lag str l ys) (hb : Below wr.heap.size wr w1) : CfRel g W n w w1 lag str l ys :=
  ⟨blk_below h.box hb, h.past.under hb, Kd.R_below h.row hb, h.ne, below_then h.below h.below.size hb⟩
/-- In the second loop. -/
structure CgRel (g W V h n c : Nat) (w wr : World) (lag str : Int) (l x al ys : List Int) : Prop where
  cf : CfRel g W n w wr lag str l x
  all : Kd.R (Kd.int .i64) 2 wr 0 (fun k => k = h) (.slice (some ⟨h, 0, none⟩) al.length c) al
  out : Kd.R (Kd.int .i16) 73 wr w.heap.size (fun k => k = V) (.slice (some ⟨V, 0, none⟩) n n) ys
  ne : V ≠ g ∧ V ≠ w.heap.size ∧ V ≠ W ∧ V ≠ h ∧ w.heap.size ≤ V
theorem CgRel.drew {g W V h n c : Nat} {w wr : World} {lag str : Int} {l x al ys : List Int} (H : CgRel g W V h n c w wr lag str l x al ys) (m : Nat) : CgRel g W V h n c w (wr.drewN m) lag str l x al ys :=
  ⟨⟨blk_drewN H.cf.box m, ⟨blk_drewN H.cf.past.box m, H.cf.past.len⟩, Kd.R_drewN H.cf.row m, H.cf.ne, pw_below_drewN H.cf.below m⟩, Kd.R_drewN H.all m, Kd.R_drewN H.out m, H.ne⟩
theorem CgRel.put {g W V h n c : Nat} {w wr : World} {lag str : Int} {l x al ys : List Int} (H : CgRel g W V h n c w wr lag str l x al ys) (j : Nat) (v : Int) : CgRel g W V h n c w (wr.setCell ⟨V, j, none⟩ (.int .i16 v)) lag str l x al (ys.set j v) := by
  obtain ⟨h1, h2, h3, h4, h5⟩ := H.ne
  have hp := Kd.R_putn H.out (j : Int) v
  rw [Int.toNat_natCast] at hp
  exact ⟨⟨blk_far H.cf.box (Ne.symm h2) _, ⟨blk_far H.cf.past.box (Ne.symm h1) _, H.cf.past.len⟩, Kd.R_far H.cf.row (fun k hk => by subst hk; exact Ne.symm h3) _, H.cf.ne, H.cf.below.setCell h5 _⟩, Kd.R_far H.all (fun k hk => by subst hk; exact Ne.symm h4) _, hp, H.ne⟩
set_option maxRecDepth 100000 in
set_option maxHeartbeats 4000000 in
theorem cfeed_ok (g c : Nat) (A : Option Addr) (l x : List Int) (lag str : Int) (w : World) (hP : Past g 100 w l) (hC : Kd.C (Kd.int .i32) w A x.length x) (hx : ∀ v ∈ x, I32 v) (h1 : x.length ≤ 120) (hp : Pok lag str) :
    Calls Try.prog 15 #[.pointer (some ⟨g, 0, none⟩), .slice A x.length c, .agg #[.int .i64 lag, .int .i64 str]] w fun e w' => ∃ v, e = .returned (.tuple #[v, .int .i64 0]) ∧ Kd.R (Kd.int .i16) 73 w' w.heap.size (fun _ => True) v (combL (l ++ x) x lag str) ∧ Past g 100 w' ((l ++ x).drop x.length) ∧ w.grownBy w' (some g) := by
  have hlag : 0 ≤ lag ∧ lag ≤ 79 := by unfold Pok at hp; omega
  have hstr : 0 ≤ str ∧ str ≤ 3 := by unfold Pok at hp; omega
  obtain ⟨hg0, hg1⟩ := hlag
  obtain ⟨hs0, hs1⟩ := hstr
  have HP := Lib.hid hP
  have HC := Lib.hid hC
  have HX := Lib.hid hx
  have hgl := blk_lt hP.box
  have hll := hP.len
  have Hll := Lib.hid hll
  have C := pcheck_any lag str (w.alloc (.cells #[.int .i64 lag, .int .i64 str] 42))
  rw [if_pos hp] at C
  have C := Lib.hid C
  clear hP hC hx hll hp
  have h120 : ¬ (120 : Int) < (x.length : Int) := by omega
  have hmk : ∀ W : World, (Instr.makeSlice 37 (.int .i64 (x.length : Int)) (.int .i64 (x.length : Int))).run Try.prog W = .ok (.slice (some ⟨W.heap.size, 0, none⟩) x.length x.length) (W.alloc (.cells (madeCells #[.int .i64 0] x.length) 2)) := fun W => print_make 37 2 .i64 8 Try.underlying37 clone64_info (by decide) x.length (by omega) W
  have hmk2 : ∀ W : World, (Instr.makeSlice 38 (.int .i64 (x.length : Int)) (.int .i64 (x.length : Int))).run Try.prog W = .ok (.slice (some ⟨W.heap.size, 0, none⟩) x.length x.length) (W.alloc (.cells (madeCells #[.int .i16 0] x.length) 73)) := fun W => print_make 38 73 .i16 2 Try.underlying38 clone16_info (by decide) x.length (by omega) W
  go_enter Try.func15, Try.ntmps15
  go_wp2_with fail
  refine C.out.mono ?_
  rintro e w1 ⟨rfl, hb1⟩
  have hsz : w.heap.size < w1.heap.size := by have := hb1.size; simp at this; omega
  have hst0 : Hid (CfRel g w1.heap.size x.length w (w1.alloc (.cells (madeCells #[.int .i64 0] x.length) 2)) lag str l (fillv x 0)) := by
    refine ⟨blk_alloc (blk_below (heap_alloc_new w _) hb1) _, ⟨blk_alloc (blk_below (blk_alloc HP.out.box _) hb1) _, Hll.out⟩, ?_, ⟨by omega, by omega, by omega, by omega⟩, (below_then ((Below.refl w.heap.size w).alloc (Nat.le_refl _) _) (by simp) hb1).alloc (by omega) _⟩
    rw [fillv_zero]
    exact Kd.R_of_own (own_made' w1 w.heap.size 2 .i64 x.length (by omega) (by omega)) (fun k hk => by simpa [Value.ownBlock] using hk.symm)
  clear hb1 C
  go_wp2
  generalize w1.heap.size = W at hst0 hsz ⊢
  go_loopg [9, 10, 32] x.length (fun gk s9 s10 s32 wr => ∃ k : Nat, k ≤ x.length ∧ gk = x.length - k ∧ s32 = .int .i64 k ∧ CfRel g W x.length w wr lag str l (fillv x k))
  case atStart => exact ⟨0, by omega, rfl, rfl, hst0.out⟩
  case round =>
    clear hst0
    obtain ⟨k, hk, rfl, rfl, hM⟩ := hrel
    by_cases hlt : k < x.length
    · have hkl : (k : Int) < (x.length : Int) := by omega
      have hk0 : (0 : Int) ≤ (k : Int) := by omega
      obtain ⟨ad, rfl, hc⟩ := Kd.at_int (Kd.C_below HC.out hM.below) (k : Int) hk0 hkl
      have hxx : I32 (rd x k) := HX.out _ (rd_mem x k hk0 hkl)
      have hstep := Lib.hid (fillv_step x k hlt)
      have c0 : ∃ u, wr.cell? ⟨W, k, none⟩ = some u := by
        have := (Kd.R_celln (0 : Int) hM.row (k : Int) hk0 hkl).1
        rw [Int.toNat_natCast] at this
        exact ⟨_, this⟩
      obtain ⟨u, c0⟩ := c0
      have g0 : wr.frozen? ⟨W, k, none⟩ = false := by
        have := (Kd.R_celln (0 : Int) hM.row (k : Int) hk0 hkl).2
        rwa [Int.toNat_natCast] at this
      generalize rd x k = v at hc hxx hstep
      rw [Int.toNat_natCast] at hc
      obtain ⟨xb0, xb1⟩ := id hxx
      clear hxx
      have hM2 := Lib.hid (hM.put k v)
      rw [hstep.out] at hM2
      clear hM
      go_wp2
      go_roundg (x.length - (k + 1))
      case measure => omega
      case rel => exact ⟨k + 1, hlt, rfl, by push_cast; rfl, hM2.out⟩
    · obtain rfl : k = x.length := by omega
      have hkl : ¬ (x.length : Int) < (x.length : Int) := by omega
      have hM2 := Lib.hid hM
      rw [fillv_all] at hM2
      clear hM
      go_wp2_with fail
      refine (with_any g 100 l (some ⟨W, 0, none⟩) x.length x _ hM2.out.past (rowC hM2.out.row) (by omega)).mono ?_
      rintro e w2 ⟨v, rfl, hR, hB⟩
      have hM3 := Lib.hid (hM2.out.under hB)
      have hsz1 : W < wr.heap.size := Kd.R_lt hM2.out.row W (by simp [Value.ownBlock])
      have hsz2 : wr.heap.size ≤ w2.heap.size := hB.size
      obtain ⟨h, c2, rfl, hh1, hh2, hR⟩ := R_fixed hR (by rw [List.length_append]; have := Hll.out; omega)
      have hal : (l ++ x).length = 79 + x.length := by rw [List.length_append, Hll.out]
      generalize hale : l ++ x = al at hal hR ⊢
      have Hale := Lib.hid hale
      have Hal := Lib.hid hal
      clear hal hale
      have b0 : w2.cell? ⟨w.heap.size, 0, none⟩ = some (.int .i64 lag) := blk_cell hM3.out.box 0
      have b1 : w2.cell? ⟨w.heap.size, 1, none⟩ = some (.int .i64 str) := blk_cell hM3.out.box 1
      have hN : Hid (CgRel g W w2.heap.size h x.length c2 w (w2.alloc (.cells (madeCells #[.int .i16 0] x.length) 73)) lag str l x al (fillv (combL al x lag str) 0)) := by
        refine ⟨hM3.out.under ((Below.refl _ _).alloc (Nat.le_refl _) _), Kd.R_alloc (Kd.R_lower hR (Nat.zero_le _)) _, ?_, ⟨by have := hM3.out.ne; omega, by have := hM3.out.ne; omega, by omega, by omega, by have := hM3.out.ne; omega⟩⟩
        rw [fillv_zero, combL_len]
        exact Kd.R_of_own (own_made' w2 w.heap.size 73 .i16 x.length (by have := hM3.out.ne; omega) (by omega)) (fun k hk => by simpa [Value.ownBlock] using hk.symm)
      clear hM2 hR hB hM3
      have hgh : g ≠ h := by omega
      go_wp2_with fail
      generalize w2.heap.size = V at hN ⊢
      go_loopg [14, 15, 56] x.length (fun gk s14 s15 s56 wr => ∃ k : Nat, k ≤ x.length ∧ gk = x.length - k ∧ s56 = .int .i64 k ∧ CgRel g W V h x.length c2 w wr lag str l x al (fillv (combL al x lag str) k))
      case atStart => exact ⟨0, by omega, rfl, rfl, hN.out⟩
      case round =>
        clear hN b0 b1
        obtain ⟨k, hk, rfl, rfl, hM⟩ := hrel
        by_cases hlt : k < x.length
        · have hkl : (k : Int) < (x.length : Int) := by omega
          have hk0 : (0 : Int) ≤ (k : Int) := by omega
          have ca := (Kd.R_celln (0 : Int) hM.cf.row (k : Int) hk0 hkl).1
          rw [Int.toNat_natCast] at ca
          have hidx : 79 + k - lag.toNat < al.length := by have := Hal.out; omega
          have cb := (Kd.R_celln (0 : Int) hM.all ((79 + k - lag.toNat : Nat) : Int) (by omega) (by omega)).1
          rw [Int.toNat_natCast] at cb
          have c0 : ∃ u, wr.cell? ⟨V, k, none⟩ = some u := by
            have := (Kd.R_celln (0 : Int) hM.out (k : Int) hk0 hkl).1
            rw [Int.toNat_natCast] at this
            exact ⟨_, this⟩
          obtain ⟨u, c0⟩ := c0
          have g0 : wr.frozen? ⟨V, k, none⟩ = false := by
            have := (Kd.R_celln (0 : Int) hM.out (k : Int) hk0 hkl).2
            rwa [Int.toNat_natCast] at this
          have b0 : wr.cell? ⟨w.heap.size, 0, none⟩ = some (.int .i64 lag) := blk_cell hM.cf.box 0
          have hstep := fillv_step (combL al x lag str) k (by rw [combL_len]; exact hlt)
          rw [combL_rd al x lag str k hlt] at hstep
          unfold cbv at hstep
          have Hstep := Lib.hid hstep
          clear hstep
          change _ = some (Value.int .i64 (rd x (k : Int))) at ca
          change _ = some (Value.int .i64 (rd al ((79 + k - lag.toNat : Nat) : Int))) at cb
          generalize rd x (k : Int) = a at ca Hstep
          generalize rd al ((79 + k - lag.toNat : Nat) : Int) = y at cb Hstep
          have a2 : (0 : Int) ≤ 79 + (k : Int) - lag := by omega
          have a3 : 79 + (k : Int) - lag < (al.length : Int) := by omega
          have a4 : (79 + (k : Int) - lag).toNat = 79 + k - lag.toNat := by omega
          have hM' := Lib.hid hM
          clear hM
          go_wp2_with fail
          refine (fixround_any _ _ _ (w64_bd _)).mono ?_
          rintro e w4 ⟨rfl, n1, rfl⟩
          go_wp2_with fail
          refine (sat16_any _ _).mono ?_
          rintro e w4 ⟨rfl, rfl⟩
          have hM2 := Lib.hid ((hM'.out.drew n1).put k (clamp (rnd (wrap64 (wrap64 (a * (32768 - str * 4096)) + wrap64 (y * (str * 4096)))) 15) (-32768) 32767))
          rw [Hstep.out] at hM2
          go_wp2
          go_roundg (x.length - (k + 1))
          case measure => omega
          case rel => exact ⟨k + 1, hlt, rfl, by push_cast; rfl, hM2.out⟩
        · obtain rfl : k = x.length := by omega
          have hkl : ¬ (x.length : Int) < (x.length : Int) := by omega
          have hM' := Lib.hid hM
          have hfl := fillv_all (combL al x lag str)
          rw [combL_len] at hfl
          rw [hfl] at hM'
          clear hM hfl
          go_wp2_with fail
          refine (keep_any g 100 h c2 l al _ hM'.out.cf.past hM'.out.all (by have := Hal.out; omega) (by have := Hal.out; omega) hgh).mono ?_
          rintro e w5 ⟨rfl, hP5, hG5⟩
          have hV := hM'.out.ne
          have hO5 := Lib.hid (Kd.R_mono (Kd.R_grown hM'.out.out hG5 (fun k hk => by subst hk; intro e; injection e with e; omega)) (fun _ _ => trivial : ∀ k, k = V → True))
          have hG6 := Lib.hid ((grown_of_below hM'.out.cf.below (some g)).trans hG5)
          have hn79 : al.length - 79 = x.length := by have := Hal.out; omega
          rw [hn79] at hP5
          have hP6 := Lib.hid hP5
          clear hP5 hG5 hM'
          go_wp2
          go_ret2
          exact ⟨_, rfl, by rw [Hale.out]; exact hO5.out, by rw [Hale.out]; exact hP6.out, hG6.out⟩
end Go.Proofs.YtojlgjdebokelabH

namespace Go.Proofs.YtojlgjdebokelabH
open Go.RowKit Go.Proofs.YtojlgjdebokelabW.PrintWords Go.Proofs.YtojlgjdebokelabW.PrintMore Go.Proofs.YtojlgjdebokelabW
open Go.Proofs.Ytojlgjdebokelab.PLib6
def z79 : List Int := List.replicate 79 0
def z80 : List Int := List.replicate 80 0
def av1 : List Int := z80.set 0 1000
def av2 : List Int := av1.set 20 1000
def av3 : List Int := av2.set 40 1000
def av4 : List Int := av3.set 60 1000
def pl1 : List Int := (z79 ++ z80).drop 80
def pl2 : List Int := (pl1 ++ av4).drop 80
theorem I16_lit (l : List Int) (h : l.all (fun x => decide (-32768 ≤ x ∧ x ≤ 32767)) = true) : ∀ x ∈ l, I16 x := fun x hx => by
  have := List.all_eq_true.1 h x hx
  simpa [I16] using this
/-- In alive: the hunter in block g, the row x in block X, the first pitch in block P. -/
structure ApRel (g P X : Nat) (w wr : World) (l ys : List Int) : Prop where
  past : Past g 139 wr l
  box : wr.heap[P]? = some (.cells #[.int .i64 0, .int .i64 0] 42 (0, 0))
  row : Kd.R (Kd.int .i16) 73 wr w.heap.size (fun k => k = X) (.slice (some ⟨X, 0, none⟩) 80 80) ys
  ne : g ≠ P ∧ g ≠ X ∧ P ≠ X ∧ w.heap.size ≤ g ∧ w.heap.size ≤ X
  below : Below w.heap.size w wr
theorem ApRel.put {g P X : Nat} {w wr : World} {l ys : List Int} (h : ApRel g P X w wr l ys) (j : Nat) (v : Int) : ApRel g P X w (wr.setCell ⟨X, j, none⟩ (.int .i16 v)) l (ys.set j v) := by
  obtain ⟨h1, h2, h3, h4, h5⟩ := h.ne
  have hp := Kd.R_putn h.row (j : Int) v
  rw [Int.toNat_natCast] at hp
  exact ⟨⟨blk_far h.past.box h2 _, h.past.len⟩, blk_far h.box h3 _, hp, h.ne, h.below.setCell h5 _⟩
theorem ApRel.feed {g P X : Nat} {w wr w1 : World} {l l1 ys : List Int} (h : ApRel g P X w wr l ys) (hP : Past g 139 w1 l1) (hg : wr.grownBy w1 (some g)) : ApRel g P X w w1 l1 ys := by
  obtain ⟨h1, h2, h3, h4, h5⟩ := h.ne
  exact ⟨hP, blk_grown h.box hg (by intro e; injection e with e; omega), Kd.R_grown h.row hg (fun k hk => by subst hk; intro e; injection e with e; omega), h.ne, h.below.grown hg h.below.size (fun k hk => by injection hk with hk; omega)⟩
theorem ApRel.cells {g P X : Nat} {w wr : World} {l ys : List Int} (h : ApRel g P X w wr l ys) (j : Nat) (hj : j < 80) : (∃ u, wr.cell? ⟨X, j, none⟩ = some u) ∧ wr.frozen? ⟨X, j, none⟩ = false := by
  have := Kd.R_celln (0 : Int) h.row (j : Int) (by omega) (by omega)
  rw [Int.toNat_natCast] at this
  exact ⟨⟨_, this.1⟩, this.2⟩
set_option maxRecDepth 100000 in
set_option maxHeartbeats 4000000 in
theorem alive18_any (w : World) : Calls Try.prog 13 #[] w fun e w' => e = .returned (.bool true) ∧ Below w.heap.size w w' := by
  have hmk : ∀ W : World, (Instr.makeSlice 38 (.int .i64 80) (.int .i64 80)).run Try.prog W = .ok (.slice (some ⟨W.heap.size, 0, none⟩) 80 80) (W.alloc (.cells (madeCells #[.int .i16 0] 80) 73)) := fun W => print_make 38 73 .i16 2 Try.underlying38 clone16_info (by decide) 80 (by omega) W
  have mk : ∀ (W : World) (b : Nat), b ≤ W.heap.size → Kd.R (Kd.int .i16) 73 (W.alloc (.cells (madeCells #[.int .i16 0] 80) 73)) b (fun k => k = W.heap.size) (.slice (some ⟨W.heap.size, 0, none⟩) 80 80) z80 := fun W b hb => Kd.R_of_own (own_made' W b 73 .i16 80 hb (by omega)) (fun k hk => by simpa [Value.ownBlock] using hk.symm)
  have Mk := Lib.hid mk
  clear mk
  have hq0 : ∀ w, (binOp BinOp.eql 42 (.agg #[.int .i64 0, .int .i64 0]) (.agg #[.int .i64 0, .int .i64 0])).run Try.prog w = .ok (.bool true) w := fun _ => by kernel_rfl
  have hq1 : ∀ w, (binOp BinOp.eql 42 (.agg #[.int .i64 20, .int .i64 3]) (.agg #[.int .i64 20, .int .i64 3])).run Try.prog w = .ok (.bool true) w := fun _ => by kernel_rfl
  go_enter Try.func13, Try.ntmps13
  go_wp2_with fail
  refine (newhunter_any _).mono ?_
  rintro e w1 ⟨rfl, hp1, hb1⟩
  have hgl := blk_lt hp1.box
  have HP := Lib.hid hp1
  have HB := Lib.hid hb1
  clear hp1 hb1
  have R0 := Lib.hid (Mk.out w1 w1.heap.size (Nat.le_refl _))
  have P0 : Hid (Past w.heap.size 139 (w1.alloc (.cells (madeCells #[.int .i16 0] 80) 73)) z79) := HP.out.under ((Below.refl _ _).alloc (Nat.le_refl _) _)
  have B0 := Lib.hid (HB.out.alloc HB.out.size (.cells (madeCells #[.int .i16 0] 80) 73))
  clear HP HB
  go_wp2_with fail
  have F1 := hfeed_any w.heap.size 80 (some ⟨w1.heap.size, 0, none⟩) z79 z80 _ P0.out (rowC R0.out) (I16_lit _ (by decide)) (by decide) (by decide) 16 0 0 0 0 (by decide +kernel) (by decide +kernel) (by decide +kernel) (by decide) (by decide) (by decide)
  rw [if_pos rfl] at F1
  refine F1.mono ?_
  rintro e w2 ⟨rfl, hp2, hg2⟩
  clear F1
  have P1 := Lib.hid hp2
  have B1 := Lib.hid (B0.out.grown hg2 B0.out.size (fun k hk => by injection hk with hk; omega))
  have hsz1 : w1.heap.size + 1 ≤ w2.heap.size := by have := hg2.size; simpa using this
  have hw1 : w.heap.size ≤ w1.heap.size := by omega
  clear hp2 hg2 P0 R0 B0
  have A0 : Hid (ApRel w.heap.size w2.heap.size (w2.heap.size + 1) w ((w2.alloc (.cells #[.int .i64 0, .int .i64 0] 42)).alloc (.cells (madeCells #[.int .i16 0] 80) 73)) pl1 z80) := by
    refine ⟨⟨blk_alloc (blk_alloc P1.out.box _) _, P1.out.len⟩, blk_alloc (heap_alloc_new w2 _) _, ?_, ⟨by omega, by omega, by omega, by omega, by omega⟩, (B1.out.alloc (by omega) _).alloc (by simp; omega) _⟩
    have := Mk.out (w2.alloc (.cells #[.int .i64 0, .int .i64 0] 42)) w.heap.size (by simp; omega)
    simpa using this
  clear P1 B1
  go_wp2
  generalize hPX : w2.heap.size + 1 = X at A0 ⊢
  have HPX := Lib.hid hPX
  clear hPX
  generalize hPe : w2.heap.size = P at A0 hsz1 HPX ⊢
  have HPe := Lib.hid hPe
  clear hPe
  go_loopg [5] 4 (fun gk s5 wr => (gk = 4 ∧ s5 = .int .i64 0 ∧ ApRel w.heap.size P X w wr pl1 z80) ∨ (gk = 3 ∧ s5 = .int .i64 20 ∧ ApRel w.heap.size P X w wr pl1 av1) ∨ (gk = 2 ∧ s5 = .int .i64 40 ∧ ApRel w.heap.size P X w wr pl1 av2) ∨ (gk = 1 ∧ s5 = .int .i64 60 ∧ ApRel w.heap.size P X w wr pl1 av3) ∨ (gk = 0 ∧ s5 = .int .i64 80 ∧ ApRel w.heap.size P X w wr pl1 av4))
  case atStart => exact .inl ⟨rfl, rfl, A0.out⟩
  case round =>
    clear A0
    rcases hrel with ⟨rfl, rfl, hM⟩ | ⟨rfl, rfl, hM⟩ | ⟨rfl, rfl, hM⟩ | ⟨rfl, rfl, hM⟩ | ⟨rfl, rfl, hM⟩
    · obtain ⟨⟨u, c0⟩, g0⟩ := hM.cells 0 (by decide)
      have hN := Lib.hid (hM.put 0 1000)
      clear hM
      go_wp2
      go_roundg 3
      case measure => omega
      case rel => exact .inr (.inl ⟨rfl, rfl, hN.out⟩)
    · obtain ⟨⟨u, c0⟩, g0⟩ := hM.cells 20 (by decide)
      have hN := Lib.hid (hM.put 20 1000)
      clear hM
      go_wp2
      go_roundg 2
      case measure => omega
      case rel => exact .inr (.inr (.inl ⟨rfl, rfl, hN.out⟩))
    · obtain ⟨⟨u, c0⟩, g0⟩ := hM.cells 40 (by decide)
      have hN := Lib.hid (hM.put 40 1000)
      clear hM
      go_wp2
      go_roundg 1
      case measure => omega
      case rel => exact .inr (.inr (.inr (.inl ⟨rfl, rfl, hN.out⟩)))
    · obtain ⟨⟨u, c0⟩, g0⟩ := hM.cells 60 (by decide)
      have hN := Lib.hid (hM.put 60 1000)
      clear hM
      go_wp2
      go_roundg 0
      case measure => omega
      case rel => exact .inr (.inr (.inr (.inr ⟨rfl, rfl, hN.out⟩)))
    · replace hM := Lib.hid hM
      go_wp2_with fail
      have F2 := hfeed_any w.heap.size 80 (some ⟨X, 0, none⟩) pl1 av4 _ hM.out.past (rowC hM.out.row) (I16_lit _ (by decide)) (by decide) (by decide) 20 3000000 2000 1732 2 (by decide +kernel) (by decide +kernel) (by decide +kernel) (by decide) (by decide) (by decide +kernel)
      rw [if_neg (by decide)] at F2
      refine F2.mono ?_
      rintro e w3 ⟨rfl, hp3, hg3⟩
      have hN := Lib.hid (hM.out.feed hp3 hg3)
      clear F2 hp3 hg3 hM
      go_wp2_with fail
      have F3 := hfeed_any w.heap.size 80 (some ⟨X, 0, none⟩) pl2 av4 _ hN.out.past (rowC hN.out.row) (I16_lit _ (by decide)) (by decide) (by decide) 20 4000000 2000 2000 3 (by decide +kernel) (by decide +kernel) (by decide +kernel) (by decide) (by decide) (by decide +kernel)
      rw [if_neg (by decide)] at F3
      refine F3.mono ?_
      rintro e w4 ⟨rfl, hp4, hg4⟩
      have hM := Lib.hid (hN.out.feed hp4 hg4)
      clear F3 hp4 hg4 hN
      have hPlt := blk_lt hM.out.box
      have bB := Lib.hid (hM.out.below.alloc hM.out.below.size (.cells #[.int .i64 20, .int .i64 3] 42))
      have c0 : (w4.alloc (.cells #[.int .i64 20, .int .i64 3] 42)).cell? ⟨P, 0, none⟩ = some (.int .i64 0) := blk_cell (blk_alloc hM.out.box _) 0
      have c1 : (w4.alloc (.cells #[.int .i64 20, .int .i64 3] 42)).cell? ⟨P, 1, none⟩ = some (.int .i64 0) := blk_cell (blk_alloc hM.out.box _) 1
      go_wp2
      go_ret
      exact ⟨rfl, bB.out⟩
end Go.Proofs.YtojlgjdebokelabH

namespace Go.Proofs.YtojlgjdebokelabH
open Go.RowKit Go.Proofs.YtojlgjdebokelabW.PrintWords
open Go.Proofs.Ytojlgjdebokelab.PLib6
theorem rd_nat (l : List Int) (i : Nat) : rd l (i : Int) = l.getD i 0 := by unfold rd; rw [Int.toNat_natCast]
def zz : List Int := List.replicate 79 0
theorem zz_len : zz.length = 79 := by unfold zz; exact List.length_replicate
theorem zz_get (i : Nat) (h : i < 79) : (zz[i]?).getD 0 = 0 := by
  unfold zz
  rw [List.getElem?_replicate, if_pos h]; rfl
/-- What a comb holds behind all that came. -/
def pastv (al : List Int) : List Int := (zz ++ al).drop al.length
theorem pastv_nil : pastv [] = List.replicate 79 0 := rfl
theorem pastv_len (al : List Int) : (pastv al).length = 79 := by
  unfold pastv
  rw [List.length_drop, List.length_append, zz_len]; omega
theorem pastv_app (al x : List Int) : pastv al ++ x = (zz ++ (al ++ x)).drop al.length := by
  unfold pastv
  have h : (zz ++ al ++ x).drop al.length = (zz ++ al).drop al.length ++ x := List.drop_append_of_le_length (by rw [List.length_append]; omega)
  rw [← List.append_assoc, h]
theorem pastv_step (al x : List Int) : (pastv al ++ x).drop x.length = pastv (al ++ x) := by
  rw [pastv_app, List.drop_drop]
  unfold pastv
  rw [List.length_append]
theorem rd_past (al x : List Int) (i lag : Nat) (hl : lag ≤ 79) (hi : i < x.length) : rd (pastv al ++ x) ((79 + i - lag : Nat) : Int) = if al.length + i < lag then 0 else rd (al ++ x) ((al.length + i - lag : Nat) : Int) := by
  rw [rd_nat, rd_nat, pastv_app, List.getD_eq_getElem?_getD, List.getElem?_drop, List.getD_eq_getElem?_getD]
  by_cases h : al.length + i < lag
  · rw [if_pos h, List.getElem?_append_left (by rw [zz_len]; omega)]
    exact zz_get _ (by omega)
  · rw [if_neg h, List.getElem?_append_right (by rw [zz_len]; omega)]
    congr 2
    rw [zz_len]; omega
theorem comb_l0 (al x : List Int) (lag str : Int) (hp : Pok lag str) (h1 : x.length ≤ 120) (h2 : al.length ≤ 100000) : ∀ (d i : Nat), i + d = x.length →
    psalteryref18_Comb.l0 (d + 1) (al ++ x) ((combL (pastv al ++ x) x lag str).take i) ((al.length + i : Nat) : Int) lag str = some (combL (pastv al ++ x) x lag str)
  | 0, i, h => by
    unfold psalteryref18_Comb.l0
    rw [if_neg (by rw [List.length_append]; omega), List.take_of_length_le (by rw [combL_len]; omega)]
  | d + 1, i, h => by
    have hlag : 0 ≤ lag ∧ lag ≤ 79 := by unfold Pok at hp; omega
    have hstr : 0 ≤ str ∧ str ≤ 3 := by unfold Pok at hp; omega
    have ih := comb_l0 al x lag str hp h1 h2 d (i + 1) (by omega)
    have e1 : wrap64 (4096 * str) = str * 4096 := by unfold wrap64; omega
    have e2 : wrap64 (32768 - str * 4096) = 32768 - str * 4096 := by unfold wrap64; omega
    have e3 : wrap64 (((al.length + i : Nat) : Int) - lag) = ((al.length + i : Nat) : Int) - lag := by unfold wrap64; omega
    have e4 : wrap64 (((al.length + i : Nat) : Int) + 1) = ((al.length + (i + 1) : Nat) : Int) := by unfold wrap64; push_cast; omega
    have hat : psalteryref18_at.f (al ++ x) (((al.length + i : Nat) : Int) - lag) = some (rd (pastv al ++ x) ((79 + i - lag.toNat : Nat) : Int)) := by
      rw [rd_past al x i lag.toNat (by omega) (by omega)]
      unfold psalteryref18_at.f
      by_cases hc : al.length + i < lag.toNat
      · rw [if_pos (by omega), if_pos hc]
      · rw [if_neg (by omega), if_pos (by omega), if_pos (by rw [List.length_append]; omega), if_neg hc]
        congr 2
        omega
    have hx : rd (al ++ x) ((al.length + i : Nat) : Int) = rd x (i : Int) := by
      rw [rd_nat, rd_nat, List.getD_eq_getElem?_getD, List.getD_eq_getElem?_getD, List.getElem?_append_right (by omega)]
      congr 2
      omega
    unfold psalteryref18_Comb.l0
    rw [if_pos (by rw [List.length_append]; omega), if_pos (by omega), e3, hat, Option.bind_some, hx, e1, e2]
    have hb := w64_bd (wrap64 (rd x (i : Int) * (32768 - str * 4096)) + wrap64 (rd (pastv al ++ x) ((79 + i - lag.toNat : Nat) : Int) * (str * 4096)))
    unfold psalteryref01_Round.f psalteryref01_Sat.f
    rw [if_pos hb.1, if_pos hb.2, Option.bind_some, if_neg (by decide), if_pos rfl, Option.bind_some, if_pos (by simp; omega), e4]
    have hc : (combL (pastv al ++ x) x lag str).take (i + 1) = (combL (pastv al ++ x) x lag str).take i ++ [clamp (rnd (wrap64 (wrap64 (rd x (i : Int) * (32768 - str * 4096)) + wrap64 (rd (pastv al ++ x) ((79 + i - lag.toNat : Nat) : Int) * (str * 4096)))) 15) (-32768) 32767] := by
      rw [List.take_succ_eq_append_getElem (by rw [combL_len]; omega)]
      congr 2
      have := combL_rd (pastv al ++ x) x lag str i (by omega)
      rw [rd_nat, List.getD_eq_getElem?_getD, List.getElem?_eq_getElem (by rw [combL_len]; omega)] at this
      exact this
    have hw : ∀ n : Int, IntKind.i16.wrap (clamp n (-32768) 32767) = clamp n (-32768) 32767 := fun n => by
      have := clamp_in n (-32768) 32767 (by decide)
      simp only [IntKind.wrap, IntKind.bits, IntKind.signed]; simp; omega
    rw [hw, ← hc]
    exact ih
theorem rcomb_any (A : Option Addr) (c : Nat) (al x : List Int) (lag str : Int) (w : World) (hC : Kd.C (Kd.int .i64) w A (al ++ x).length (al ++ x)) (hc : (al ++ x).length ≤ c) (hp : Pok lag str) (h1 : x.length ≤ 120) (h2 : al.length ≤ 100000) :
    Calls Try.prog 19 #[.slice A (al ++ x).length c, .int .i64 x.length, .agg #[.int .i64 lag, .int .i64 str]] w fun e w' => ∃ v, e = .returned v ∧ Kd.R (Kd.int .i16) 73 w' w.heap.size (fun _ => True) v (combL (pastv al ++ x) x lag str) ∧ Below w.heap.size w w' := by
  refine psalteryref18_Comb.calls (x.length + 1) A c (al ++ x) x.length lag str _ w hC hc ?_
  unfold psalteryref18_Comb.f
  have e : wrap64 (((al ++ x).length : Int) - (x.length : Int)) = ((al.length + 0 : Nat) : Int) := by rw [List.length_append]; unfold wrap64; push_cast; omega
  rw [e]
  have := comb_l0 al x lag str hp h1 h2 x.length 0 (by omega)
  rw [List.take_zero] at this
  exact this
end Go.Proofs.YtojlgjdebokelabH

namespace Go.Proofs.YtojlgjdebokelabH
open Go.RowKit Go.Proofs.YtojlgjdebokelabW.PrintWords Go.Proofs.YtojlgjdebokelabW.PrintMore Go.Proofs.YtojlgjdebokelabW
attribute [local go_sem ↓] Go.wp_at_zero Go.wp_at_succ
def InL (w : World) (A : Option Addr) (ls : List (List Int)) : Prop := ∀ (i : Nat) (x : List Int), ls[i]? = some x → ∃ ad Ai ci, A = some ad ∧ w.cell? (ad.add i) = some (.slice Ai x.length ci) ∧ x.length ≤ ci ∧ Kd.C (Kd.int .i32) w Ai x.length x
def InP (w : World) (A : Option Addr) (ps : List (Int × Int)) : Prop := ∀ (i : Nat) (p : Int × Int), ps[i]? = some p → ∃ ad, A = some ad ∧ w.cell? (ad.add (i * 2)) = some (.int .i64 p.1) ∧ w.cell? ⟨(ad.add (i * 2)).block, (ad.add (i * 2)).off + 1, none⟩ = some (.int .i64 p.2)
theorem Rg {k : IntKind} {e : Nat} {w w1 : World} {base : Nat} {v : Value} {xs : List Int} (h : Kd.R (Kd.int k) e w base (fun _ => True) v xs) {row : Option Nat} (hg : w.grownBy w1 row) (hne : ∀ k, v.ownBlock = some k → some k ≠ row) : Kd.R (Kd.int k) e w1 base (fun _ => True) v xs :=
  Kd.R_mono (Kd.R_grown (Kd.R_flat (ok' := fun k => v.ownBlock = some k) (fun h => h) h (fun k hk _ => hk)) hg hne) (fun _ _ => trivial)
structure PcRel (g : Nat) (w wr : World) (pl al : List Int) (v : Value) (vo : Value) (cl : List Int) : Prop where
  past : Past g 100 wr pl
  all : Kd.R (Kd.int .i64) 2 wr w.heap.size (fun _ => True) v al
  out : Kd.R (Kd.int .i16) 73 wr w.heap.size (fun _ => True) vo cl
  hg : w.heap.size ≤ g
  below : Below w.heap.size w wr
section
variable {g : Nat} {w wr w1 : World} {pl al cl : List Int} {v vo : Value}
theorem PcRel.under (h : PcRel g w wr pl al v vo cl) (hb : Below wr.heap.size wr w1) : PcRel g w w1 pl al v vo cl :=
  ⟨h.past.under hb, Kd.R_below h.all hb, Kd.R_below h.out hb, h.hg, below_then h.below h.below.size hb⟩
theorem PcRel.drew (h : PcRel g w wr pl al v vo cl) (n : Nat) : PcRel g w (wr.drewN n) pl al v vo cl :=
  ⟨⟨blk_drewN h.past.box n, h.past.len⟩, Kd.R_drewN h.all n, Kd.R_drewN h.out n, h.hg, pw_below_drewN h.below n⟩
theorem PcRel.forget (h : PcRel g w wr pl al v vo cl) : PcRel g w wr pl al v (.slice none 0 0) [] := ⟨h.past, h.all, Kd.R_nil _ _ _ _ _, h.hg, h.below⟩
theorem PcRel.feed (h : PcRel g w wr pl al v vo cl) {pl2 cl2 : List Int} {v2 : Value} (hp : Past g 100 w1 pl2) (hg : wr.grownBy w1 (some g)) (hR : Kd.R (Kd.int .i16) 73 w1 wr.heap.size (fun _ => True) v2 cl2) : PcRel g w w1 pl2 al v v2 cl2 :=
  ⟨hp, Rg h.all hg (fun k hk e => Kd.R_ne h.all h.past.box (by decide) (e.symm.trans hk.symm)), Kd.R_lower hR h.below.size, h.hg, h.below.grown hg h.below.size (fun k hk => by injection hk with hk; have := h.hg; omega)⟩
theorem PcRel.push (h : PcRel g w wr pl al v vo cl) {v2 : Value} {al2 : List Int} (hR : Kd.R (Kd.int .i64) 2 w1 w.heap.size (fun _ => True) v2 al2) (hB : Below w.heap.size w w1) (hg : wr.grownBy w1 v.ownBlock) : PcRel g w w1 pl al2 v2 vo cl := by
  obtain ⟨io, ho⟩ := Kd.R_own h.out
  obtain ⟨ia, ha⟩ := Kd.R_own h.all
  have hne := ne_types ho ha (by decide)
  exact ⟨⟨blk_grown h.past.box hg (Kd.R_ne h.all h.past.box (by decide)), h.past.len⟩, hR, Rg h.out hg (fun k hk e => hne k hk e.symm), h.hg, hB⟩
end
set_option maxRecDepth 100000 in
theorem l4_far (A0 A1 : Option Addr) (n c0 m c1 : Nat) (w : World) (h : 8 < n) : Calls Try.prog 4 #[.slice A0 n c0, .slice A1 m c1] w fun e w' => e = .returned (.bool true) ∧ Below w.heap.size w w' := by
  have h8 : (8 : Int) < (n : Int) := by omega
  go_enter Try.func4, Try.ntmps4
  go_wp2_with (go_at_call 13; refine (alive18_any _).mono ?_; rintro e w1 ⟨rfl, hb⟩; (replace hb := Lib.hid hb))
  go_ret
  exact ⟨rfl, hb.out⟩
set_option maxRecDepth 100000 in
set_option maxHeartbeats 4000000 in
theorem l4_near (A0 A1 : Option Addr) (c0 c1 : Nat) (ls : List (List Int)) (ps : List (Int × Int)) (w : World) (hL : InL w A0 ls) (hP : InP w A1 ps) (hx : ∀ l ∈ ls, ∀ v ∈ l, I32 v) (h : ls.length ≤ 8) (hps : ps.length ≤ 9223372036854775807) :
    Calls Try.prog 4 #[.slice A0 ls.length c0, .slice A1 ps.length c1] w fun e w' => e = .returned (.bool true) ∧ Below w.heap.size w w' := by
  have HL := Lib.hid hL
  have HP := Lib.hid hP
  have HX := Lib.hid hx
  clear hL hP hx
  have h8 : ¬ (8 : Int) < (ls.length : Int) := by omega
  go_enter Try.func4, Try.ntmps4
  go_wp2_with (first
    | (go_at_call 13; refine (alive18_any _).mono ?_; rintro e w1 ⟨rfl, hb⟩; (replace hb := Lib.hid hb))
    | (go_at_call 14; refine (newcomb_any _).mono ?_; rintro e w2 ⟨rfl, hp2, hb2⟩))
  have hst : Hid (PcRel w1.heap.size w w2 (pastv []) [] (.slice none 0 0) (.slice none 0 0) []) := ⟨hp2, Kd.R_nil _ _ _ _ _, Kd.R_nil _ _ _ _ _, hb.out.size, below_then hb.out hb.out.size hb2⟩
  have hgl := hb.out.size
  clear hp2 hb2 hb
  generalize w1.heap.size = g at hst hgl ⊢
  go_loopg [6, 7, 8, 9, 10, 11, 12] ls.length (fun gk s6 s7 s8 s9 s10 s11 s12 wr => ∃ (i : Nat) (al : List Int), i ≤ ls.length ∧ gk = ls.length - i ∧ s7 = .int .i64 i ∧ al.length ≤ i * 120 ∧ PcRel g w wr (pastv al) al s6 (.slice none 0 0) [])
  case atStart => exact ⟨0, [], by omega, rfl, rfl, by simp, hst.out⟩
  case round =>
    clear hst
    obtain ⟨i, al, hi, rfl, rfl, hal, hM⟩ := hrel
    replace hM := Lib.hid hM
    by_cases hil : i < ls.length
    case neg =>
      have hn : ¬ (i : Int) < (ls.length : Int) := by omega
      go_wp2
      go_ret
      exact ⟨rfl, hM.out.below⟩
    case pos =>
      have hil' : (i : Int) < (ls.length : Int) := by omega
      have hi0 : (0 : Int) ≤ (i : Int) := by omega
      by_cases hip : i < ps.length
      case neg =>
        have hn : ¬ (i : Int) < (ps.length : Int) := by omega
        go_wp2
        go_ret
        exact ⟨rfl, hM.out.below⟩
      case pos =>
        have hip' : (i : Int) < (ps.length : Int) := by omega
        obtain ⟨x, hxi⟩ : ∃ x, ls[i]? = some x := ⟨_, List.getElem?_eq_getElem hil⟩
        obtain ⟨p, hpi⟩ : ∃ p, ps[i]? = some p := ⟨_, List.getElem?_eq_getElem hip⟩
        obtain ⟨ad, Ai, ci, rfl, hc, hci, hC⟩ := HL.out i x hxi
        obtain ⟨ad1, rfl, hq0, hq1⟩ := HP.out i p hpi
        have hbx : Hid (∀ v ∈ x, I32 v) := HX.out x (List.mem_of_getElem? hxi)
        obtain ⟨lag, str⟩ := p
        have lt0 := World.block_lt_of_cell? _ _ hc
        have lt1 := World.block_lt_of_cell? _ _ hq0
        have lt2 := World.block_lt_of_cell? _ _ hq1
        have hC := Lib.hid hC
        clear hxi hpi
        have k0 : wr.cell? (ad.add i) = some (.slice Ai x.length ci) := (hM.out.below.cell lt0).trans hc
        have k1 : wr.cell? (ad1.add (i * 2)) = some (.int .i64 lag) := (hM.out.below.cell lt1).trans hq0
        have k2 : wr.cell? ⟨(ad1.add (i * 2)).block, (ad1.add (i * 2)).off + 1, none⟩ = some (.int .i64 str) := (hM.out.below.cell (p := ⟨(ad1.add (i * 2)).block, (ad1.add (i * 2)).off + 1, none⟩) lt2).trans hq1
        by_cases h300 : 300 < x.length
        case pos =>
          have h300' : (300 : Int) < (x.length : Int) := by omega
          go_wp2
          go_ret
          exact ⟨rfl, hM.out.below⟩
        case neg =>
          have h300' : ¬ (300 : Int) < (x.length : Int) := by omega
          by_cases h120 : 120 < x.length
          case pos =>
            have h120' : (120 : Int) < (x.length : Int) := by omega
            by_cases hpk : Pok lag str
            · have hdec : Hid (decide (Pok lag str) = true) := decide_eq_true hpk
              have hpk := Lib.hid hpk
              go_wp2_with fail
              go_region_held3 (fun w' => w'.cell? (ad.add i) = some (.slice Ai x.length ci) ∧ w'.cell? (ad1.add (i * 2)) = some (.int .i64 lag) ∧ w'.cell? ⟨(ad1.add (i * 2)).block, (ad1.add (i * 2)).off + 1, none⟩ = some (.int .i64 str))
                (first | exact hHeld | exact ⟨k0, k1, k2⟩ | exact ⟨(hb4.cell (World.block_lt_of_cell? _ _ k0)).trans k0, (hb4.cell (World.block_lt_of_cell? _ _ k1)).trans k1, (hb4.cell (World.block_lt_of_cell? _ _ k2)).trans k2⟩)
                (((go_at_call 15; refine (cfeed_long g ci x.length Ai lag str _ h120).mono ?_; rintro e w4 ⟨rfl, hb4⟩)))
              replace hM := Lib.hid ((hM.out.drew 1).under hb4)
              clear k0 k1 k2 hb4
              have k0 : w4.cell? (ad.add i) = some (.slice Ai x.length ci) := (hM.out.below.cell lt0).trans hc
              have k1 : w4.cell? (ad1.add (i * 2)) = some (.int .i64 lag) := (hM.out.below.cell lt1).trans hq0
              have k2 : w4.cell? ⟨(ad1.add (i * 2)).block, (ad1.add (i * 2)).off + 1, none⟩ = some (.int .i64 str) := (hM.out.below.cell (p := ⟨(ad1.add (i * 2)).block, (ad1.add (i * 2)).off + 1, none⟩) lt2).trans hq1
              have C1 := Lib.hid (rpcheck_any lag str w4)
              rw [hdec.out] at C1
              go_wp2_with fail
              refine C1.out.mono ?_
              rintro e w5 ⟨rfl, hb5⟩
              replace hM := Lib.hid (hM.out.under hb5)
              clear k0 k1 k2 hb5 C1
              have k0 : w5.cell? (ad.add i) = some (.slice Ai x.length ci) := (hM.out.below.cell lt0).trans hc
              have k1 : w5.cell? (ad1.add (i * 2)) = some (.int .i64 lag) := (hM.out.below.cell lt1).trans hq0
              have k2 : w5.cell? ⟨(ad1.add (i * 2)).block, (ad1.add (i * 2)).off + 1, none⟩ = some (.int .i64 str) := (hM.out.below.cell (p := ⟨(ad1.add (i * 2)).block, (ad1.add (i * 2)).off + 1, none⟩) lt2).trans hq1
              have C1 := Lib.hid (pcheck_any lag str w5)
              rw [if_pos hpk.out] at C1
              go_wp2_with fail
              refine C1.out.mono ?_
              rintro e w6 ⟨rfl, hb6⟩
              replace hM := Lib.hid (hM.out.under hb6)
              clear k0 k1 k2 hb6 C1
              have k0 : w6.cell? (ad.add i) = some (.slice Ai x.length ci) := (hM.out.below.cell lt0).trans hc
              have k1 : w6.cell? (ad1.add (i * 2)) = some (.int .i64 lag) := (hM.out.below.cell lt1).trans hq0
              have k2 : w6.cell? ⟨(ad1.add (i * 2)).block, (ad1.add (i * 2)).off + 1, none⟩ = some (.int .i64 str) := (hM.out.below.cell (p := ⟨(ad1.add (i * 2)).block, (ad1.add (i * 2)).off + 1, none⟩) lt2).trans hq1
              go_wp2
              go_roundg (ls.length - (i + 1))
              case measure => omega
              case rel => exact ⟨i + 1, al, by omega, rfl, by push_cast; rfl, by omega, hM.out⟩
            · have hdec : Hid (decide (Pok lag str) = false) := decide_eq_false hpk
              have hpk := Lib.hid hpk
              go_wp2_with fail
              go_region_held3 (fun w' => w'.cell? (ad.add i) = some (.slice Ai x.length ci) ∧ w'.cell? (ad1.add (i * 2)) = some (.int .i64 lag) ∧ w'.cell? ⟨(ad1.add (i * 2)).block, (ad1.add (i * 2)).off + 1, none⟩ = some (.int .i64 str))
                (first | exact hHeld | exact ⟨k0, k1, k2⟩ | exact ⟨(hb4.cell (World.block_lt_of_cell? _ _ k0)).trans k0, (hb4.cell (World.block_lt_of_cell? _ _ k1)).trans k1, (hb4.cell (World.block_lt_of_cell? _ _ k2)).trans k2⟩)
                (((go_at_call 15; refine (cfeed_long g ci x.length Ai lag str _ h120).mono ?_; rintro e w4 ⟨rfl, hb4⟩)))
              replace hM := Lib.hid ((hM.out.drew 1).under hb4)
              clear k0 k1 k2 hb4
              have k0 : w4.cell? (ad.add i) = some (.slice Ai x.length ci) := (hM.out.below.cell lt0).trans hc
              have k1 : w4.cell? (ad1.add (i * 2)) = some (.int .i64 lag) := (hM.out.below.cell lt1).trans hq0
              have k2 : w4.cell? ⟨(ad1.add (i * 2)).block, (ad1.add (i * 2)).off + 1, none⟩ = some (.int .i64 str) := (hM.out.below.cell (p := ⟨(ad1.add (i * 2)).block, (ad1.add (i * 2)).off + 1, none⟩) lt2).trans hq1
              have C1 := Lib.hid (rpcheck_any lag str w4)
              rw [hdec.out] at C1
              go_wp2_with fail
              refine C1.out.mono ?_
              rintro e w5 ⟨rfl, hb5⟩
              replace hM := Lib.hid (hM.out.under hb5)
              clear k0 k1 k2 hb5 C1
              have k0 : w5.cell? (ad.add i) = some (.slice Ai x.length ci) := (hM.out.below.cell lt0).trans hc
              have k1 : w5.cell? (ad1.add (i * 2)) = some (.int .i64 lag) := (hM.out.below.cell lt1).trans hq0
              have k2 : w5.cell? ⟨(ad1.add (i * 2)).block, (ad1.add (i * 2)).off + 1, none⟩ = some (.int .i64 str) := (hM.out.below.cell (p := ⟨(ad1.add (i * 2)).block, (ad1.add (i * 2)).off + 1, none⟩) lt2).trans hq1
              have C1 := Lib.hid (pcheck_any lag str w5)
              rw [if_neg hpk.out] at C1
              go_wp2_with fail
              refine C1.out.mono ?_
              rintro e w6 ⟨rfl, hb6⟩
              replace hM := Lib.hid (hM.out.under hb6)
              clear k0 k1 k2 hb6 C1
              have k0 : w6.cell? (ad.add i) = some (.slice Ai x.length ci) := (hM.out.below.cell lt0).trans hc
              have k1 : w6.cell? (ad1.add (i * 2)) = some (.int .i64 lag) := (hM.out.below.cell lt1).trans hq0
              have k2 : w6.cell? ⟨(ad1.add (i * 2)).block, (ad1.add (i * 2)).off + 1, none⟩ = some (.int .i64 str) := (hM.out.below.cell (p := ⟨(ad1.add (i * 2)).block, (ad1.add (i * 2)).off + 1, none⟩) lt2).trans hq1
              go_wp2
              go_roundg (ls.length - (i + 1))
              case measure => omega
              case rel => exact ⟨i + 1, al, by omega, rfl, by push_cast; rfl, by omega, hM.out⟩
          case neg =>
            have h120' : ¬ (120 : Int) < (x.length : Int) := by omega
            by_cases hpk : Pok lag str
            · have hdec : Hid (decide (Pok lag str) = true) := decide_eq_true hpk
              have hpk := Lib.hid hpk
              have hgw : ∀ k, k < w.heap.size → some k ≠ some g := fun k hk e => by injection e with e; omega
              go_wp2_with fail
              go_region_held3 (fun w' => w'.cell? (ad.add i) = some (.slice Ai x.length ci) ∧ w'.cell? (ad1.add (i * 2)) = some (.int .i64 lag) ∧ w'.cell? ⟨(ad1.add (i * 2)).block, (ad1.add (i * 2)).off + 1, none⟩ = some (.int .i64 str))
                (first | exact hHeld | exact ⟨k0, k1, k2⟩ | exact ⟨(hg4.cell_far _ (World.block_lt_of_cell? _ _ k0) (hgw _ lt0)).trans k0, (hg4.cell_far _ (World.block_lt_of_cell? _ _ k1) (hgw _ lt1)).trans k1, (hg4.cell_far _ (World.block_lt_of_cell? _ _ k2) (hgw _ lt2)).trans k2⟩)
                ((go_at_call 15; refine (cfeed_ok g ci Ai (pastv al) x lag str _ (hM.out.drew 1).past (Kd.C_below hC.out (hM.out.drew 1).below) hbx.out (by omega) hpk.out).mono ?_; rintro e w4 ⟨v8, rfl, hR4, hp4, hg4⟩))
              rw [pastv_step] at hp4
              replace hM := Lib.hid ((hM.out.drew 1).feed hp4 hg4 hR4)
              clear k0 k1 k2 hg4 hp4 hR4
              have k0 : w4.cell? (ad.add i) = some (.slice Ai x.length ci) := (hM.out.below.cell lt0).trans hc
              have k1 : w4.cell? (ad1.add (i * 2)) = some (.int .i64 lag) := (hM.out.below.cell lt1).trans hq0
              have k2 : w4.cell? ⟨(ad1.add (i * 2)).block, (ad1.add (i * 2)).off + 1, none⟩ = some (.int .i64 str) := (hM.out.below.cell (p := ⟨(ad1.add (i * 2)).block, (ad1.add (i * 2)).off + 1, none⟩) lt2).trans hq1
              have C1 := Lib.hid (rpcheck_any lag str w4)
              rw [hdec.out] at C1
              go_wp2_with fail
              refine C1.out.mono ?_
              rintro e w5 ⟨rfl, hb5⟩
              replace hM := Lib.hid (hM.out.under hb5)
              clear k0 k1 k2 hb5 C1
              have k0 : w5.cell? (ad.add i) = some (.slice Ai x.length ci) := (hM.out.below.cell lt0).trans hc
              have k1 : w5.cell? (ad1.add (i * 2)) = some (.int .i64 lag) := (hM.out.below.cell lt1).trans hq0
              have k2 : w5.cell? ⟨(ad1.add (i * 2)).block, (ad1.add (i * 2)).off + 1, none⟩ = some (.int .i64 str) := (hM.out.below.cell (p := ⟨(ad1.add (i * 2)).block, (ad1.add (i * 2)).off + 1, none⟩) lt2).trans hq1
              have C1 := Lib.hid (pcheck_any lag str w5)
              rw [if_pos hpk.out] at C1
              go_wp2_with fail
              refine C1.out.mono ?_
              rintro e w6 ⟨rfl, hb6⟩
              replace hM := Lib.hid (hM.out.under hb6)
              clear k0 k1 k2 hb6 C1
              have k0 : w6.cell? (ad.add i) = some (.slice Ai x.length ci) := (hM.out.below.cell lt0).trans hc
              have k1 : w6.cell? (ad1.add (i * 2)) = some (.int .i64 lag) := (hM.out.below.cell lt1).trans hq0
              have k2 : w6.cell? ⟨(ad1.add (i * 2)).block, (ad1.add (i * 2)).off + 1, none⟩ = some (.int .i64 str) := (hM.out.below.cell (p := ⟨(ad1.add (i * 2)).block, (ad1.add (i * 2)).off + 1, none⟩) lt2).trans hq1
              go_wp2
              go_loopg [6, 12] x.length (fun gk s6 s12 wr => ∃ k : Nat, k ≤ x.length ∧ gk = x.length - k ∧ s12 = .int .i64 k ∧ PcRel g w wr (pastv (al ++ x)) (al ++ x.take k) s6 v8 (combL (pastv al ++ x) x lag str))
              case atStart => exact ⟨0, by omega, rfl, rfl, by rw [List.take_zero, List.append_nil]; exact hM.out⟩
              case round =>
                clear hM k0 k1 k2
                obtain ⟨k, hk, rfl, rfl, hM⟩ := hrel
                replace hM := Lib.hid hM
                have k0 : wr.cell? (ad.add i) = some (.slice Ai x.length ci) := (hM.out.below.cell lt0).trans hc
                have k1 : wr.cell? (ad1.add (i * 2)) = some (.int .i64 lag) := (hM.out.below.cell lt1).trans hq0
                have k2 : wr.cell? ⟨(ad1.add (i * 2)).block, (ad1.add (i * 2)).off + 1, none⟩ = some (.int .i64 str) := (hM.out.below.cell (p := ⟨(ad1.add (i * 2)).block, (ad1.add (i * 2)).off + 1, none⟩) lt2).trans hq1
                by_cases hlt : k < x.length
                · have hkl : (k : Int) < (x.length : Int) := by omega
                  have hk0 : (0 : Int) ≤ (k : Int) := by omega
                  obtain ⟨adx, rfl, hcx⟩ := Kd.at_int (Kd.C_below hC.out hM.out.below) (k : Int) hk0 hkl
                  have hxx : I32 (rd x k) := hbx.out _ (rd_mem x k hk0 hkl)
                  have hstep : Hid (al ++ x.take (k + 1) = (al ++ x.take k) ++ [rd x (k : Int)]) := by
                    show _ = _
                    rw [List.take_succ_eq_append_getElem hlt, List.append_assoc]
                    congr 3
                    rw [rd_nat, List.getD_eq_getElem?_getD, List.getElem?_eq_getElem hlt]; rfl
                  generalize rd x k = q at hcx hxx hstep
                  rw [Int.toNat_natCast] at hcx
                  obtain ⟨xb0, xb1⟩ := id hxx
                  clear hxx
                  have hlen : Hid ((al ++ x.take k).length ≤ 2000) := by show _ ≤ _; rw [List.length_append, List.length_take]; omega
                  have hsz : w.heap.size ≤ wr.heap.size := hM.out.below.size
                  go_wp2_with ((with_reducible refine gate_builtin (b := .append) (xs := #[.tmp 96, .tmp 105]) rfl ?_); at_builtin; refine Kd.R_append (Kd.int .i64) (w0 := w) w.heap.size rfl (.tmp 96) (.tmp 105) 37 2 (.int .i64 0) 8 rfl Try.underlying37 clone64_info rfl (by decide) (by decide) u6 (al ++ x.take k) q [.int .i64 q] (fun _ => True) (fun _ => False) rfl rfl rfl (fun _ hk => hk.elim) (fun _ _ => trivial) hM.out.all hM.out.below hsz (by have := hlen.out; omega) ?_; intro v1 w7 hR hB hg hat; (replace hM := Lib.hid (hM.out.push hR hB hg)); clear hR hB hg hat)
                  rw [← hstep.out] at hM
                  go_roundg (x.length - (k + 1))
                  case measure => omega
                  case rel => exact ⟨k + 1, hlt, rfl, by push_cast; rfl, hM.out⟩
                · obtain rfl : k = x.length := by omega
                  have hkl : ¬ (x.length : Int) < (x.length : Int) := by omega
                  rw [List.take_length] at hM
                  obtain ⟨A6, c6, rfl, hc6, hC6⟩ := Kd.R_reads hM.out.all
                  obtain ⟨A8, c8, rfl, hc8, hC8⟩ := Kd.R_reads hM.out.out
                  have hC6 := Lib.hid hC6
                  have hC8 := Lib.hid hC8
                  have Hc6 := Lib.hid hc6
                  have Hc8 := Lib.hid hc8
                  clear hc6 hc8
                  have hclen := combL_len (pastv al ++ x) x lag str
                  have CC : Hid (∀ W, Below wr.heap.size wr W → Calls Try.prog 19 #[.slice A6 (al.length + x.length) c6, .int .i64 x.length, .agg #[.int .i64 lag, .int .i64 str]] W fun e w' => ∃ v, e = .returned v ∧ Kd.R (Kd.int .i16) 73 w' W.heap.size (fun _ => True) v (combL (pastv al ++ x) x lag str) ∧ Below W.heap.size W w') := by
                    intro W hb
                    have := rcomb_any A6 c6 al x lag str W (Kd.C_below hC6.out hb) Hc6.out hpk.out (by omega) (by omega)
                    rwa [List.length_append] at this
                  generalize combL (pastv al ++ x) x lag str = cl at hclen CC hC8 Hc8 hM ⊢
                  have Hclen := Lib.hid hclen
                  clear hclen
                  go_wp2_with fail
                  go_region_held3 (fun w' => w'.cell? (ad.add i) = some (.slice Ai x.length ci) ∧ w'.cell? (ad1.add (i * 2)) = some (.int .i64 lag) ∧ w'.cell? ⟨(ad1.add (i * 2)).block, (ad1.add (i * 2)).off + 1, none⟩ = some (.int .i64 str))
                    (first | exact hHeld | exact ⟨k0, k1, k2⟩ | exact ⟨(hb7.cell (World.block_lt_of_cell? _ _ k0)).trans k0, (hb7.cell (World.block_lt_of_cell? _ _ k1)).trans k1, (hb7.cell (World.block_lt_of_cell? _ _ k2)).trans k2⟩)
                    ((first
                      | (go_at_call 19; refine (CC.out _ (below_drew1 (Below.refl _ _))).mono ?_; rintro e w7 ⟨v7, rfl, hR7, hb7⟩; (obtain ⟨A7, c7, rfl, hc7, hC7⟩ := Kd.R_reads hR7); (replace hC7 := Lib.hid hC7); (replace hc7 := Lib.hid hc7))
                      | (go_at_call 18; refine (same16_any A8 A7 c8 c7 cl _ (Kd.C_below (Kd.C_below hC8.out (below_drew1 (Below.refl _ _))) hb7) Hc8.out hC7.out hc7.out (by have := Hclen.out; omega)).mono ?_; rintro e w9 ⟨rfl, n9, rfl⟩)))
                  have hN := Lib.hid ((((hM.out.drew 1).under hb7).drew n9).forget)
                  rw [List.length_append] at hN
                  have hal2 : (al ++ x).length ≤ (i + 1) * 120 := by rw [List.length_append]; omega
                  have Hal2 := Lib.hid hal2
                  clear hal2 hM hb7
                  go_wp2
                  go_roundg (ls.length - (i + 1))
                  case measure => omega
                  case rel => exact ⟨i + 1, al ++ x, by omega, rfl, by push_cast; rfl, Hal2.out, hN.out⟩
            · have hdec : Hid (decide (Pok lag str) = false) := decide_eq_false hpk
              have hpk := Lib.hid hpk
              go_wp2_with fail
              go_region_held3 (fun w' => w'.cell? (ad.add i) = some (.slice Ai x.length ci) ∧ w'.cell? (ad1.add (i * 2)) = some (.int .i64 lag) ∧ w'.cell? ⟨(ad1.add (i * 2)).block, (ad1.add (i * 2)).off + 1, none⟩ = some (.int .i64 str))
                (first | exact hHeld | exact ⟨k0, k1, k2⟩ | exact ⟨(hb4.cell (World.block_lt_of_cell? _ _ k0)).trans k0, (hb4.cell (World.block_lt_of_cell? _ _ k1)).trans k1, (hb4.cell (World.block_lt_of_cell? _ _ k2)).trans k2⟩)
                (((go_at_call 15; refine (cfeed_bad g ci x.length Ai lag str _ (by omega) hpk.out).mono ?_; rintro e w4 ⟨rfl, hb4⟩)))
              replace hM := Lib.hid ((hM.out.drew 1).under hb4)
              clear k0 k1 k2 hb4
              have k0 : w4.cell? (ad.add i) = some (.slice Ai x.length ci) := (hM.out.below.cell lt0).trans hc
              have k1 : w4.cell? (ad1.add (i * 2)) = some (.int .i64 lag) := (hM.out.below.cell lt1).trans hq0
              have k2 : w4.cell? ⟨(ad1.add (i * 2)).block, (ad1.add (i * 2)).off + 1, none⟩ = some (.int .i64 str) := (hM.out.below.cell (p := ⟨(ad1.add (i * 2)).block, (ad1.add (i * 2)).off + 1, none⟩) lt2).trans hq1
              have C1 := Lib.hid (rpcheck_any lag str w4)
              rw [hdec.out] at C1
              go_wp2_with fail
              refine C1.out.mono ?_
              rintro e w5 ⟨rfl, hb5⟩
              replace hM := Lib.hid (hM.out.under hb5)
              clear k0 k1 k2 hb5 C1
              have k0 : w5.cell? (ad.add i) = some (.slice Ai x.length ci) := (hM.out.below.cell lt0).trans hc
              have k1 : w5.cell? (ad1.add (i * 2)) = some (.int .i64 lag) := (hM.out.below.cell lt1).trans hq0
              have k2 : w5.cell? ⟨(ad1.add (i * 2)).block, (ad1.add (i * 2)).off + 1, none⟩ = some (.int .i64 str) := (hM.out.below.cell (p := ⟨(ad1.add (i * 2)).block, (ad1.add (i * 2)).off + 1, none⟩) lt2).trans hq1
              have C1 := Lib.hid (pcheck_any lag str w5)
              rw [if_neg hpk.out] at C1
              go_wp2_with fail
              refine C1.out.mono ?_
              rintro e w6 ⟨rfl, hb6⟩
              replace hM := Lib.hid (hM.out.under hb6)
              clear k0 k1 k2 hb6 C1
              have k0 : w6.cell? (ad.add i) = some (.slice Ai x.length ci) := (hM.out.below.cell lt0).trans hc
              have k1 : w6.cell? (ad1.add (i * 2)) = some (.int .i64 lag) := (hM.out.below.cell lt1).trans hq0
              have k2 : w6.cell? ⟨(ad1.add (i * 2)).block, (ad1.add (i * 2)).off + 1, none⟩ = some (.int .i64 str) := (hM.out.below.cell (p := ⟨(ad1.add (i * 2)).block, (ad1.add (i * 2)).off + 1, none⟩) lt2).trans hq1
              go_wp2
              go_roundg (ls.length - (i + 1))
              case measure => omega
              case rel => exact ⟨i + 1, al, by omega, rfl, by push_cast; rfl, by omega, hM.out⟩
theorem l4_any (A0 A1 : Option Addr) (c0 c1 : Nat) (ls : List (List Int)) (ps : List (Int × Int)) (w : World) (hL : InL w A0 ls) (hP : InP w A1 ps) (hx : ∀ l ∈ ls, ∀ v ∈ l, I32 v) (hps : ps.length ≤ 9223372036854775807) :
    Calls Try.prog 4 #[.slice A0 ls.length c0, .slice A1 ps.length c1] w fun e w' => e = .returned (.bool true) ∧ Below w.heap.size w w' := by
  by_cases h : 8 < ls.length
  · exact l4_far A0 A1 _ c0 _ c1 w h
  · exact l4_near A0 A1 c0 c1 ls ps w hL hP hx (by omega) hps
end Go.Proofs.YtojlgjdebokelabH
