import Derived.Test.YtojlgjdebokelabHNe
import Derived.Deep.DrawnRows
import Derived.StillTailTactics
set_option linter.unusedVariables false
set_option linter.unusedSimpArgs false
namespace Go.Proofs.YtojlgjdebokelabH
open Go.RowKit Go.Proofs.YtojlgjdebokelabW.PrintWords Go.Proofs.YtojlgjdebokelabW.PrintMore Go.Proofs.YtojlgjdebokelabW
attribute [local go_sem ↓] Go.wp_at_zero Go.wp_at_succ
open Go.Proofs.Ytojlgjdebokelab.PLib4
def mx3 (m x : Int) : Int := if (if m < x then x else m) < -x then -x else if m < x then x else m
def mostN (l : List Int) : Nat → Int
  | 0 => 0
  | i + 1 => mx3 (mostN l i) (rd l i)
theorem mostN_bd (l : List Int) (hx : ∀ x ∈ l, I32 x) : ∀ i : Nat, i ≤ l.length → 0 ≤ mostN l i ∧ mostN l i ≤ 2147483648
  | 0, _ => ⟨Int.le_refl _, by simp [mostN]⟩
  | i + 1, h => by
    have := mostN_bd l hx i (by omega)
    have h2 := hx _ (rd_mem l i (by omega) (by omega))
    unfold I32 at h2
    unfold mostN mx3
    split <;> split <;> omega
theorem bits_any (n : Int) (w : World) (h0 : 0 ≤ n) (h1 : n ≤ 18446744073709551615) :
    Calls Try.prog 91 #[.int .u64 n] w fun e w' => e = .returned (.int .i64 (Lib.bitLen n.toNat : Nat)) ∧ ∃ k, w' = w.drewN k := by
  refine (logs_Bits.calls n (Lib.bitLen n.toNat : Nat) w ?_).mono fun e w' h => ⟨h.1, h.2.out⟩
  unfold logs_Bits.f bits_Len64.f
  rw [if_pos h0, if_pos h1]; rfl
theorem bitLenAux_le : ∀ (f x : Nat), Lib.bitLenAux f x ≤ f
  | 0, _ => Nat.le_refl _
  | f + 1, x => by
    unfold Lib.bitLenAux
    split
    · omega
    · have := bitLenAux_le f (x / 2); omega
theorem bitLen_32 (x : Nat) (h : x < 2 ^ 32) : Lib.bitLen x ≤ 32 := by
  show Lib.bitLenAux 64 x ≤ 32
  rw [Lib.bitLenAux_fuel 32 x h 64 (by decide)]
  exact bitLenAux_le 32 x
/-- How far lines are shifted. -/
def shv (m : Int) : Int := max ((Lib.bitLen m.toNat : Nat) - 15 : Int) 0
theorem shv_bd (m : Int) (h0 : 0 ≤ m) (h1 : m ≤ 2147483648) : 0 ≤ shv m ∧ shv m ≤ 17 := by
  have := bitLen_32 m.toNat (by omega)
  unfold shv
  omega
def accS (l : List Int) (h : Int) (j : Nat) : Nat → Int
  | 0 => 0
  | n + 1 => wrap64 (accS l h j n + wrap64 (wrap64 (rd l ((n + j : Nat) : Int) / 2 ^ h.toNat) * wrap64 (rd l (n : Int) / 2 ^ h.toNat)))
/-- The row of four numbers and one, out of a function. -/
abbrev rowg (g : Nat → Int) : Array Value := row5 (g 0) (g 1) (g 2) (g 3) (g 4)
def upg (g : Nat → Int) (j : Nat) (v : Int) : Nat → Int := fun i => if i = j then v else g i
theorem rowg_at (g : Nat → Int) (j : Nat) (h : j < 5) : (rowg g)[j]? = some (.int .i64 (g j)) := by
  rcases j with _ | _ | _ | _ | _ | j <;> first | rfl | omega
theorem rowg_set (g : Nat → Int) (j : Nat) (v : Int) (h : j < 5) : (rowg g).setIfInBounds j (.int .i64 v) = rowg (upg g j v) := by
  rcases j with _ | _ | _ | _ | _ | j <;> first | rfl | omega
structure AlRel (w wr : World) (g : Nat → Int) : Prop where
  out : wr.heap[w.heap.size]? = some (.cells (row5 0 0 0 0 0) 105 (0, 0))
  acc : wr.heap[w.heap.size + 1]? = some (.cells (rowg g) 105 (0, 0))
  below : Below w.heap.size w wr
theorem AlRel.put {w wr : World} {g : Nat → Int} (h : AlRel w wr g) (n j : Nat) (v : Int) (hj : j < 5) : AlRel w ((wr.drewN n).setCell ⟨w.heap.size + 1, j, none⟩ (.int .i64 v)) (upg g j v) :=
  ⟨blk_far (blk_drewN h.out n) (by show w.heap.size ≠ w.heap.size + 1; omega) _, blk_put (blk_drewN h.acc n) j _ (rowg_set g j v hj), (pw_below_drewN h.below n).setCell (by show w.heap.size ≤ w.heap.size + 1; omega) _⟩
theorem AlRel.put0 {w wr : World} {g : Nat → Int} (h : AlRel w wr g) (j : Nat) (v : Int) (hj : j < 5) : AlRel w (wr.setCell ⟨w.heap.size + 1, j, none⟩ (.int .i64 v)) (upg g j v) :=
  ⟨blk_far h.out (by show w.heap.size ≠ w.heap.size + 1; omega) _, blk_put h.acc j _ (rowg_set g j v hj), h.below.setCell (by show w.heap.size ≤ w.heap.size + 1; omega) _⟩
theorem AlRel.drew1 {w wr : World} {g : Nat → Int} (h : AlRel w wr g) : AlRel w wr.drew g := ⟨blk_drew h.out, blk_drew h.acc, pw_below_drewN h.below 1⟩
/-- How alike lines are to themselves. -/
def alk (l : List Int) (j : Nat) : Int := accS l (shv (mostN l l.length)) j (l.length - j)
def AlPost (w : World) (l : List Int) (e : Ending) (w' : World) : Prop := e = .returned (.agg (rowg (alk l))) ∧ Below w.heap.size w w'
set_option maxRecDepth 100000 in
set_option maxHeartbeats 4000000 in
theorem alike_any (A : Option Addr) (c : Nat) (l : List Int) (w : World) (hr : Kd.C (Kd.int .i32) w A l.length l) (hl : l.length ≤ 120) (hx : ∀ x ∈ l, I32 x) :
    Calls Try.prog 60 #[.slice A l.length c] w (AlPost w l) := by
  have Hr := Lib.hid hr
  have Hx := Lib.hid hx
  clear hr hx
  go_enter Try.func60, Try.ntmps60
  go_wp2
  go_loopw [3, 12] (fun m i wr => ∃ (k : Nat) (mv : Int), k ≤ l.length ∧ i = .int .i64 k ∧ m = .int .i64 mv ∧ Hid (mv = mostN l k) ∧ wr = w.alloc (.cells (row5 0 0 0 0 0) 105)) (fun _ i _ => l.length - (intOf i).toNat)
  case atStart => exact ⟨0, 0, by omega, rfl, rfl, rfl, rfl⟩
  case round =>
    obtain ⟨k, mv, hk, rfl, rfl, hmv, rfl⟩ := hrel
    have hmb := mostN_bd l Hx.out k hk
    rw [← hmv.out] at hmb
    obtain ⟨hm0, hm1⟩ := hmb
    by_cases hlt : k < l.length
    · have hkl : (k : Int) < (l.length : Int) := by omega
      have hk0 : (0 : Int) ≤ (k : Int) := by omega
      obtain ⟨ad, rfl, hc⟩ := Kd.at_int (Kd.C_alloc Hr.out (.cells (row5 0 0 0 0 0) 105)) (k : Int) hk0 hkl
      have hxx : I32 (rd l k) := Hx.out _ (rd_mem l k hk0 hkl)
      have hstep : Hid (mostN l (k + 1) = mx3 mv (rd l k)) := by show _ = _; rw [hmv.out]; rfl
      generalize rd l k = x at hc hxx hstep
      rw [Int.toNat_natCast] at hc
      obtain ⟨xb0, xb1⟩ := id hxx
      clear hxx
      go_wp2
      go_roundw
      case rel =>
        exact ⟨k + 1, mx3 mv x, hlt, by push_cast; rfl, rfl, hstep.out.symm, trivial⟩
      case measure => simp [intOf]; omega
    · obtain rfl : k = l.length := by omega
      have hkl : ¬ (l.length : Int) < (l.length : Int) := by omega
      have hbl := bitLen_32 mv.toNat (by omega)
      go_wp2_with (go_at_call 91; refine (bits_any mv _ hm0 (by omega)).mono ?_; rintro e w1 ⟨rfl, nb, rfl⟩; (have hsv : Hid (shv mv = max ((Lib.bitLen mv.toNat : Nat) - 15 : Int) 0) := rfl); (generalize Lib.bitLen mv.toNat = bl at hbl hsv ⊢); (have hbl0 : (0 : Int) ≤ (bl : Int) := by omega); (have hbl1 : (bl : Int) ≤ 32 := by omega))
      have hsh := shv_bd mv hm0 hm1
      rw [← hsv.out]
      have Hh : Hid (shv mv = shv (mostN l l.length)) := by show _ = _; rw [hmv.out]
      generalize shv mv = h at hsh Hh
      obtain ⟨hs0, hs1⟩ := hsh
      have hst : Hid (AlRel w (((w.alloc (.cells (row5 0 0 0 0 0) 105)).drewN nb).alloc (.cells (row5 0 0 0 0 0) 105)) (fun _ => 0)) :=
        ⟨blk_alloc (blk_drewN (heap_alloc_new w _) nb) _, by have := heap_alloc_new ((w.alloc (.cells (row5 0 0 0 0 0) 105)).drewN nb) (.cells (row5 0 0 0 0 0) 105); simpa using this, (pw_below_drewN ((Below.refl _ _).alloc (Nat.le_refl _) _) nb).alloc (by simp) _⟩
      clear hsv hbl hbl0 hbl1
      go_loopw [29] (fun jv wj => ∃ j : Nat, j ≤ 5 ∧ jv = .int .i64 j ∧ ∃ g, Hid (∀ i, g i = if i < j then accS l h i (l.length - i) else 0) ∧ AlRel w wj g) (fun j _ => 5 - (intOf j).toNat)
      case atStart => exact ⟨0, by omega, rfl, _, (fun i => by simp), hst⟩
      case round =>
        clear hst
        obtain ⟨j, hj, rfl, g, hg, hM⟩ := hrel
        by_cases hj5 : j < 5
        · have hj0 : (0 : Int) ≤ (j : Int) := by omega
          have hj1 : (j : Int) < 5 := by omega
          obtain ⟨wo, rfl⟩ : ∃ wo : World, wo = wr := ⟨_, rfl⟩
          go_wp2
          go_loopw [9] (fun iv wj => ∃ (n : Nat) (g' : Nat → Int), iv = .int .i64 ((n : Int) + (j : Int)) ∧ n ≤ l.length - j ∧ Hid (g' = upg g j (accS l h j n)) ∧ AlRel w wj g') (fun i _ => l.length - (intOf i).toNat)
          case atStart => exact ⟨0, g, by simp, by omega, (by show _ = _; funext i; unfold upg; split
                                                              · subst i; rw [hg.out j, if_neg (by omega)]; rfl
                                                              · rfl), hM⟩
          case round =>
            clear hM
            obtain ⟨n, g', rfl, hn, hq, hM⟩ := hrel
            by_cases hlt : n + j < l.length
            · have hkl : ((n + j : Nat) : Int) < (l.length : Int) := by omega
              have hk0 : (0 : Int) ≤ ((n + j : Nat) : Int) := by omega
              have hkl2 : ((n : Nat) : Int) < (l.length : Int) := by omega
              have hk2 : (0 : Int) ≤ ((n : Nat) : Int) := by omega
              obtain ⟨ad, rfl, hcw⟩ := Kd.at_int Hr.out ((n + j : Nat) : Int) hk0 hkl
              obtain ⟨ad', had, hcw2⟩ := Kd.at_int Hr.out ((n : Nat) : Int) hk2 hkl2
              obtain rfl : ad = ad' := by injection had
              clear had
              have hb1 := World.block_lt_of_cell? _ _ hcw
              have hb2 := World.block_lt_of_cell? _ _ hcw2
              have hc := (hM.below.cell hb1).trans hcw
              have hc2 := (hM.below.cell hb2).trans hcw2
              rw [Int.toNat_natCast] at hc hc2 hb1 hb2
              have hne1 : (⟨w.heap.size + 1, j, none⟩ : Addr) ≠ ad.add (n + j) := fun e => by have := congrArg Addr.block e; simp only at this; omega
              have hne2 : (⟨w.heap.size + 1, j, none⟩ : Addr) ≠ ad.add n := fun e => by have := congrArg Addr.block e; simp only at this; omega
              clear hb1 hb2 hcw hcw2
              have hx1 : I32 (rd l ((n + j : Nat) : Int)) := Hx.out _ (rd_mem l _ hk0 hkl)
              have hx2 : I32 (rd l ((n : Nat) : Int)) := Hx.out _ (rd_mem l _ hk2 hkl2)
              have hqj : g' j = accS l h j n := by rw [hq.out]; unfold upg; rw [if_pos rfl]
              generalize hqe : g' j = q at hqj
              have Hq := Lib.hid hqe
              have hstep : Hid (accS l h j (n + 1) = wrap64 (q + wrap64 (wrap64 (rd l ((n + j : Nat) : Int) / 2 ^ h.toNat) * wrap64 (rd l (n : Int) / 2 ^ h.toNat)))) := by
                show _ = _
                rw [hqj]; rfl
              have d0 : wr.cell? ⟨w.heap.size + 1, j, none⟩ = some (.int .i64 q) := by rw [← hqe]; exact (blk_cell hM.acc j).trans (rowg_at g' j hj5)
              clear hqe hqj
              generalize rd l ((n + j : Nat) : Int) = x at hc hx1 hstep
              generalize rd l ((n : Nat) : Int) = y at hc2 hx2 hstep
              have g0 := blk_frozen hM.acc j
              have hkl' : (n : Int) + (j : Int) < (l.length : Int) := by omega
              have hk0' : (0 : Int) ≤ (n : Int) + (j : Int) := by omega
              have ht : ((n : Int) + (j : Int)).toNat = n + j := by omega
              have hwr : IntKind.i64.wrap ((n : Int) + (j : Int) - (j : Int)) = (n : Int) := by
                have : (n : Int) + (j : Int) - (j : Int) = n := by omega
                rw [this]; exact IntWalk.i64_in _ (by omega)
              have hwr2 : IntKind.i64.wrap (n : Int) = (n : Int) := IntWalk.i64_in _ (by omega)
              go_wp2_with fail
              go_still_tail 22, (by kernel_rfl)
              change wpList _ _ _ _ _ wr.drew
              have hM2 := hM.put0 j (wrap64 (q + wrap64 (wrap64 (x / 2 ^ h.toNat) * wrap64 (y / 2 ^ h.toNat)))) hj5
              have hq2 : Hid (upg g' j (wrap64 (q + wrap64 (wrap64 (x / 2 ^ h.toNat) * wrap64 (y / 2 ^ h.toNat)))) = upg g j (accS l h j (n + 1))) := by
                show _ = _
                rw [hstep.out, hq.out]; funext i; unfold upg; split <;> rfl
              have hM3 := Lib.hid (AlRel.drew1 hM2)
              clear hM2
              go_wp2
              go_roundw
              case rel => exact ⟨n + 1, _, congrArg (Value.int .i64) (by push_cast; omega), by omega, hq2, hM3.out⟩
              case measure => simp [intOf]; omega
            · have hkl' : ¬ (n : Int) + (j : Int) < (l.length : Int) := by omega
              have hM3 := Lib.hid hM
              go_wp2
              go_roundw
              case rel =>
                refine ⟨j + 1, by omega, by push_cast; rfl, g', ?_, hM3.out⟩
                show ∀ i, _
                intro i
                rw [hq.out]; unfold upg
                by_cases hi : i = j
                · subst hi
                  rw [if_pos rfl, if_pos (by omega)]
                  congr 1; omega
                · rw [if_neg hi, hg.out i]
                  by_cases hi2 : i < j
                  · rw [if_pos hi2, if_pos (by omega)]
                  · rw [if_neg hi2, if_neg (by omega)]
              case measure => simp [intOf]; omega
        · obtain rfl : j = 5 := by omega
          have hge : rowg g = rowg (alk l) := by
            have h0 := hg.out 0
            have h1 := hg.out 1
            have h2 := hg.out 2
            have h3 := hg.out 3
            have h4 := hg.out 4
            unfold alk
            rw [← Hh.out]
            simp at h0 h1 h2 h3 h4
            simp [rowg, row5, h0, h1, h2, h3, h4]
          have d0 : wr.cell? ⟨w.heap.size + 1, 0, none⟩ = some (.int .i64 (g 0)) := blk_cell hM.acc 0
          have d1 : wr.cell? ⟨w.heap.size + 1, 1, none⟩ = some (.int .i64 (g 1)) := blk_cell hM.acc 1
          have d2 : wr.cell? ⟨w.heap.size + 1, 2, none⟩ = some (.int .i64 (g 2)) := blk_cell hM.acc 2
          have d3 : wr.cell? ⟨w.heap.size + 1, 3, none⟩ = some (.int .i64 (g 3)) := blk_cell hM.acc 3
          have d4 : wr.cell? ⟨w.heap.size + 1, 4, none⟩ = some (.int .i64 (g 4)) := blk_cell hM.acc 4
          have o0 : wr.cell? ⟨w.heap.size, 0, none⟩ = some (.int .i64 0) := blk_cell hM.out 0
          have o1 : wr.cell? ⟨w.heap.size, 1, none⟩ = some (.int .i64 0) := blk_cell hM.out 1
          have o2 : wr.cell? ⟨w.heap.size, 2, none⟩ = some (.int .i64 0) := blk_cell hM.out 2
          have o3 : wr.cell? ⟨w.heap.size, 3, none⟩ = some (.int .i64 0) := blk_cell hM.out 3
          have o4 : wr.cell? ⟨w.heap.size, 4, none⟩ = some (.int .i64 0) := blk_cell hM.out 4
          have of := blk_frozen hM.out
          have Hge := Lib.hid hge
          clear hge
          go_wp2
          have hfin : (((((wr.setCell ⟨w.heap.size, 0, none⟩ (.int .i64 (g 0))).setCell ⟨w.heap.size, 1, none⟩ (.int .i64 (g 1))).setCell ⟨w.heap.size, 2, none⟩ (.int .i64 (g 2))).setCell ⟨w.heap.size, 3, none⟩ (.int .i64 (g 3))).setCell ⟨w.heap.size, 4, none⟩ (.int .i64 (g 4))).heap[w.heap.size]? = some (.cells (rowg g) 105 (0, 0)) :=
            blk_put (blk_put (blk_put (blk_put (blk_put hM.out 0 _ rfl) 1 _ rfl) 2 _ rfl) 3 _ rfl) 4 _ rfl
          have hbel : Below w.heap.size w (((((wr.setCell ⟨w.heap.size, 0, none⟩ (.int .i64 (g 0))).setCell ⟨w.heap.size, 1, none⟩ (.int .i64 (g 1))).setCell ⟨w.heap.size, 2, none⟩ (.int .i64 (g 2))).setCell ⟨w.heap.size, 3, none⟩ (.int .i64 (g 3))).setCell ⟨w.heap.size, 4, none⟩ (.int .i64 (g 4))) :=
            ((((hM.below.setCell (Nat.le_refl _) _).setCell (Nat.le_refl _) _).setCell (Nat.le_refl _) _).setCell (Nat.le_refl _) _).setCell (Nat.le_refl _) _
          clear d0 d1 d2 d3 d4 o0 o1 o2 o3 o4 of hM
          generalize (((((wr.setCell ⟨w.heap.size, 0, none⟩ (.int .i64 (g 0))).setCell ⟨w.heap.size, 1, none⟩ (.int .i64 (g 1))).setCell ⟨w.heap.size, 2, none⟩ (.int .i64 (g 2))).setCell ⟨w.heap.size, 3, none⟩ (.int .i64 (g 3))).setCell ⟨w.heap.size, 4, none⟩ (.int .i64 (g 4))) = W at hfin hbel ⊢
          have o0 : W.cell? ⟨w.heap.size, 0, none⟩ = some (.int .i64 (g 0)) := blk_cell hfin 0
          have o1 : W.cell? ⟨w.heap.size, 1, none⟩ = some (.int .i64 (g 1)) := blk_cell hfin 1
          have o2 : W.cell? ⟨w.heap.size, 2, none⟩ = some (.int .i64 (g 2)) := blk_cell hfin 2
          have o3 : W.cell? ⟨w.heap.size, 3, none⟩ = some (.int .i64 (g 3)) := blk_cell hfin 3
          have o4 : W.cell? ⟨w.heap.size, 4, none⟩ = some (.int .i64 (g 4)) := blk_cell hfin 4
          exact bodyPost_ret (v := .agg (rowg g)) (by simp [results, Try.results60, go_sem, o0, o1, o2, o3, o4]) rfl ⟨by rw [Hge.out], hbel⟩
end Go.Proofs.YtojlgjdebokelabH
