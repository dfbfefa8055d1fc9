import Derived.Test.YtojlgjdebokelabHTh
set_option linter.unusedVariables false
set_option linter.unusedSimpArgs false
namespace Go.Proofs.YtojlgjdebokelabH
open Go.RowKit Go.Proofs.YtojlgjdebokelabW.PrintWords Go.Proofs.YtojlgjdebokelabW.PrintMore Go.Proofs.YtojlgjdebokelabW
def r1 (x s0 k0 : Int) : Int := addv x (mulv s0 k0)
def r2 (x s0 k0 s1 k1 : Int) : Int := addv (r1 x s0 k0) (mulv s1 k1)
def r3 (x s0 k0 s1 k1 s2 k2 : Int) : Int := addv (r2 x s0 k0 s1 k1) (mulv s2 k2)
def r4 (x s0 k0 s1 k1 s2 k2 s3 k3 : Int) : Int := addv (r3 x s0 k0 s1 k1 s2 k2) (mulv s3 k3)
def runL (k0 k1 k2 k3 : Int) : List Int → Int → Int → Int → Int → List Int
  | [], _, _, _, _ => []
  | x :: t, s0, s1, s2, s3 => r4 x s0 k0 s1 k1 s2 k2 s3 k3 :: runL k0 k1 k2 k3 t x (addv s0 (mulv x k0)) (addv s1 (mulv (r1 x s0 k0) k1)) (addv s2 (mulv (r2 x s0 k0 s1 k1) k2))
def u3 (x s3 k3 : Int) : Int := addv x (-(mulv s3 k3))
def u2 (x s3 k3 s2 k2 : Int) : Int := addv (u3 x s3 k3) (-(mulv s2 k2))
def u1 (x s3 k3 s2 k2 s1 k1 : Int) : Int := addv (u2 x s3 k3 s2 k2) (-(mulv s1 k1))
def u0 (x s3 k3 s2 k2 s1 k1 s0 k0 : Int) : Int := addv (u1 x s3 k3 s2 k2 s1 k1) (-(mulv s0 k0))
def undoL (k0 k1 k2 k3 : Int) : List Int → Int → Int → Int → Int → List Int
  | [], _, _, _, _ => []
  | x :: t, s0, s1, s2, s3 => u0 x s3 k3 s2 k2 s1 k1 s0 k0 :: undoL k0 k1 k2 k3 t (u0 x s3 k3 s2 k2 s1 k1 s0 k0) (addv s0 (mulv (u0 x s3 k3 s2 k2 s1 k1 s0 k0) k0)) (addv s1 (mulv (u1 x s3 k3 s2 k2 s1 k1) k1)) (addv s2 (mulv (u2 x s3 k3 s2 k2) k2))

structure Inv_run (k0 k1 k2 k3 : Int) (B L g cap : Nat) (l : List Int) (w0 wr : World) (i : Nat) (ys : List Int) (s0 s1 s2 s3 : Int) : Prop where
  len : ys.length = i
  row : Kd.R (Kd.int .i32) 21 wr B (fun k => k < L) (.slice (some ⟨g, 0, none⟩) l.length cap) (ys ++ l.drop i)
  lat : Lat L wr k0 k1 k2 k3 s0 s1 s2 s3
  bds : I32 s0 ∧ I32 s1 ∧ I32 s2 ∧ I32 s3
  full : ys ++ runL k0 k1 k2 k3 (l.drop i) s0 s1 s2 s3 = runL k0 k1 k2 k3 l 0 0 0 0
  below : Below B w0 wr
theorem Inv_run.cell {k0 k1 k2 k3 : Int} {B L g cap : Nat} {l : List Int} {w0 wr : World} {i : Nat} {ys : List Int} {s0 s1 s2 s3 : Int} (h : Inv_run k0 k1 k2 k3 B L g cap l w0 wr i ys s0 s1 s2 s3) (hi : i < l.length) :
    wr.cell? ⟨g, i, none⟩ = some (.int .i32 (rd l i)) := by
  have := Kd.R_celln (0 : Int) h.row (i : Int) (by omega) (by omega)
  rw [Int.toNat_natCast] at this
  rw [this.1]
  congr 2
  unfold rdOf rd
  have hl := h.len
  rw [List.getD_eq_getElem?_getD, List.getD_eq_getElem?_getD, Int.toNat_natCast, List.getElem?_append_right (by omega), hl, Nat.sub_self, List.getElem?_drop]
  rfl
theorem Inv_run.step {k0 k1 k2 k3 : Int} {B L g cap : Nat} {l : List Int} {w0 wr w1 : World} {i : Nat} {ys : List Int} {s0 s1 s2 s3 x : Int} (h : Inv_run k0 k1 k2 k3 B L g cap l w0 wr i ys s0 s1 s2 s3) (hi : i < l.length) (hxd : x = rd l i) (hx : I32 x) (hBL : B ≤ L)
    (hg : wr.grownBy w1 (some L)) (hl : Lat L w1 k0 k1 k2 k3 x (addv s0 (mulv x k0)) (addv s1 (mulv (r1 x s0 k0) k1)) (addv s2 (mulv (r2 x s0 k0 s1 k1) k2))) :
    ((∃ u, w1.cell? ⟨g, i, none⟩ = some (.int .i32 u)) ∧ w1.frozen? ⟨g, i, none⟩ = false) ∧ g < L ∧
    Inv_run k0 k1 k2 k3 B L g cap l w0 (w1.setCell ⟨g, i, none⟩ (.int .i32 (r4 x s0 k0 s1 k1 s2 k2 s3 k3))) (i + 1) (ys ++ [r4 x s0 k0 s1 k1 s2 k2 s3 k3]) x (addv s0 (mulv x k0)) (addv s1 (mulv (r1 x s0 k0) k1)) (addv s2 (mulv (r2 x s0 k0 s1 k1) k2)) := by
  have hgL : g < L := h.row.1 g (by simp [Value.ownBlock])
  have hrow := Kd.R_grown h.row hg (fun k hk => by intro e; injection e with e; omega)
  have hc := Kd.R_celln (0 : Int) hrow (i : Int) (by omega) (by omega)
  rw [Int.toNat_natCast] at hc
  have hp := Kd.R_putn hrow (i : Int) (r4 x s0 k0 s1 k1 s2 k2 s3 k3)
  rw [Int.toNat_natCast] at hp
  have hlen := h.len
  have hdrop : l.drop i = x :: l.drop (i + 1) := by
    rw [List.drop_eq_getElem_cons hi]
    congr 1
    rw [hxd]
    unfold rd
    rw [List.getD_eq_getElem?_getD, Int.toNat_natCast, List.getElem?_eq_getElem hi]; rfl
  refine ⟨⟨⟨_, hc.1⟩, hc.2⟩, hgL, ?_, ?_, ?_, ?_, ?_, ?_⟩
  · simp [hlen]
  · have e : (ys ++ l.drop i).set i (r4 x s0 k0 s1 k1 s2 k2 s3 k3) = (ys ++ [r4 x s0 k0 s1 k1 s2 k2 s3 k3]) ++ l.drop (i + 1) := by
      rw [hdrop, List.set_append_right _ _ (by omega), hlen, Nat.sub_self, List.set_cons_zero]
      simp
    rw [← e]
    exact hp
  · exact ⟨(Below.heap_setCell _ _ _ _ (by show L ≠ g; omega)).trans hl.box⟩
  · exact ⟨hx, addv_bd _ _, addv_bd _ _, addv_bd _ _⟩
  · have e := h.full
    rw [hdrop] at e
    rw [← e]
    simp only [runL, List.append_assoc, List.singleton_append]
  · exact (h.below.grown hg (Nat.le_trans hBL (Nat.le_of_lt h.lat.lt)) (fun k hk => by injection hk with hk; omega)).setCell (by
      show B ≤ g
      exact Kd.R_base h.row g (by simp [Value.ownBlock])) _
set_option maxRecDepth 100000 in
set_option maxHeartbeats 2000000 in
theorem thr_on_run (A : Option Addr) (c : Nat) (l : List Int) (i0 i1 i2 i3 : Int) (w : World) (hr : Kd.C (Kd.int .i32) w A l.length l) (hl : l.length ≤ 120) (hx : ∀ x ∈ l, I32 x) (hf : Fok 1 i0 i1 i2 i3) (hne : l ≠ []) :
    Calls Try.prog 76 #[.slice A l.length c, fval 1 i0 i1 i2 i3, .func (.func 77) #[] #[]] w fun e w' => ∃ v, e = .returned (.tuple #[v, .int .i64 0]) ∧ Kd.R (Kd.int .i32) 21 w' w.heap.size (fun _ => True) v (runL (pv i0) (pv i1) (pv i2) (pv i3) l 0 0 0 0) ∧ Below w.heap.size w w' := by
  have hpos : 0 < l.length := List.length_pos_iff.mpr hne
  have h1 : ¬ (120 : Int) < (l.length : Int) := by omega
  have hid := Lib.hid hf
  have Hr := Lib.hid hr
  have Hx := Lib.hid hx
  clear hf hr hx
  have hF := Fil.start w 51 1 i0 i1 i2 i3
  go_enter Try.func76, Try.ntmps76
  go_wp2_with (first
    | (go_at_call 36; refine (tcheck_any 1 i0 i1 i2 i3 0 _ (by rw [if_pos hid.out])).mono ?_; rintro e w1 ⟨rfl, hg⟩; (replace hF := hF.grow hg); clear hg)
    | (go_at_call 99; refine (clone32_any A c l _ (Kd.C_below Hr.out hF.below) (by omega)).mono ?_; rintro e w2 ⟨v, rfl, hR, hb⟩; (have hle := hF.below.size); (replace hF := hF.grow (grown_of_below hb none)); (replace hR := Kd.R_lower hR hle); (obtain ⟨A', cap, rfl, hcc, hC⟩ := Kd.R_reads hR); (obtain ⟨ad, rfl, _⟩ := hC.2.2 hpos); (obtain ⟨g, rfl⟩ := Kd.R_head hR); (replace hR := Lib.hid hR); clear hb hle hC; (obtain ⟨d0, d1, d2, d3, d4⟩ := hF.cells))
    | (go_at_call 74; refine (tof_any i0 i1 i2 i3 _ (by have := hid.out.2.1; unfold fin at this; omega) (by have := hid.out.2.2.1; unfold fin at this; omega) (by have := hid.out.2.2.2.1; unfold fin at this; omega) (by have := hid.out.2.2.2.2; unfold fin at this; omega) 1).mono ?_; rintro e w3 ⟨rfl, hO⟩; (have hI : Inv_run (pv i0) (pv i1) (pv i2) (pv i3) w.heap.size (w2.heap.size + 1) g cap l w w3 0 [] 0 0 0 0 := ⟨rfl, Kd.R_mono (Kd.R_below (Kd.R_bound hR.out) (below_of_grown hO.grown)) (fun k hk => Nat.lt_succ_of_lt hk.2.2.1), hO.lat, ⟨by unfold I32; omega, by unfold I32; omega, by unfold I32; omega, by unfold I32; omega⟩, rfl, hF.below.grown hO.grown hF.below.size (by simp)⟩); (have hBL : Hid (w.heap.size ≤ w2.heap.size + 1) := Nat.le_succ_of_le hF.below.size); clear hO d0 d1 d2 d3 d4 hF hR hcc))
  go_loopw [31] (fun i wr => ∃ k : Nat, k ≤ l.length ∧ i = .int .i64 k ∧ ∃ ys s0 s1 s2 s3, Inv_run (pv i0) (pv i1) (pv i2) (pv i3) w.heap.size (w2.heap.size + 1) g cap l w wr k ys s0 s1 s2 s3) (fun i _ => l.length - (intOf i).toNat)
  case atStart => exact ⟨0, by omega, rfl, [], 0, 0, 0, 0, hI⟩
  case round =>
    obtain ⟨k, hk, rfl, ys, s0, s1, s2, s3, hM⟩ := hrel
    by_cases hlt : k < l.length
    · have hkl : (k : Int) < (l.length : Int) := by omega
      have hk0 : (0 : Int) ≤ (k : Int) := by omega
      have c0 := hM.cell hlt
      have hxx : I32 (rd l k) := Hx.out _ (rd_mem l k (by omega) hkl)
      have hmem := Lib.hid hxx
      generalize hxd : rd l k = x at c0 hxx hmem
      have Hxd := Lib.hid hxd
      clear hxd
      clear hxx
      go_wp2_with (go_at_call 77; refine (run_any (w2.heap.size + 1) _ (pv i0) (pv i1) (pv i2) (pv i3) s0 s1 s2 s3 x hM.lat ⟨pv_bd _, pv_bd _, pv_bd _, pv_bd _⟩ hM.bds hmem.out _ _ _ _ rfl rfl rfl rfl).mono ?_; rintro e w4 ⟨rfl, hg, hl4⟩; (obtain ⟨⟨⟨u, cu⟩, cf⟩, hgL, hI2⟩ := hM.step hlt Hxd.out.symm hmem.out hBL.out hg hl4); clear hg hl4)
      refine ⟨⟨k + 1, hlt, by push_cast; rfl, _, _, _, _, _, hI2⟩, ?_⟩
      simp [intOf]; omega
    · obtain rfl : k = l.length := by omega
      have hkl : ¬ (l.length : Int) < (l.length : Int) := by omega
      go_wp2
      go_ret2
      refine ⟨_, rfl, ?_, hM.below⟩
      have hr2 := hM.row
      have hf2 := hM.full
      rw [List.drop_eq_nil_of_le (Nat.le_refl _), List.append_nil] at hr2
      rw [List.drop_eq_nil_of_le (Nat.le_refl _)] at hf2
      simp only [runL, List.append_nil] at hf2
      rw [← hf2]
      exact Kd.R_mono hr2 (fun _ _ => trivial)

structure Inv_undo (k0 k1 k2 k3 : Int) (B L g cap : Nat) (l : List Int) (w0 wr : World) (i : Nat) (ys : List Int) (s0 s1 s2 s3 : Int) : Prop where
  len : ys.length = i
  row : Kd.R (Kd.int .i32) 21 wr B (fun k => k < L) (.slice (some ⟨g, 0, none⟩) l.length cap) (ys ++ l.drop i)
  lat : Lat L wr k0 k1 k2 k3 s0 s1 s2 s3
  bds : I32 s0 ∧ I32 s1 ∧ I32 s2 ∧ I32 s3
  full : ys ++ undoL k0 k1 k2 k3 (l.drop i) s0 s1 s2 s3 = undoL k0 k1 k2 k3 l 0 0 0 0
  below : Below B w0 wr
theorem Inv_undo.cell {k0 k1 k2 k3 : Int} {B L g cap : Nat} {l : List Int} {w0 wr : World} {i : Nat} {ys : List Int} {s0 s1 s2 s3 : Int} (h : Inv_undo k0 k1 k2 k3 B L g cap l w0 wr i ys s0 s1 s2 s3) (hi : i < l.length) :
    wr.cell? ⟨g, i, none⟩ = some (.int .i32 (rd l i)) := by
  have := Kd.R_celln (0 : Int) h.row (i : Int) (by omega) (by omega)
  rw [Int.toNat_natCast] at this
  rw [this.1]
  congr 2
  unfold rdOf rd
  have hl := h.len
  rw [List.getD_eq_getElem?_getD, List.getD_eq_getElem?_getD, Int.toNat_natCast, List.getElem?_append_right (by omega), hl, Nat.sub_self, List.getElem?_drop]
  rfl
theorem Inv_undo.step {k0 k1 k2 k3 : Int} {B L g cap : Nat} {l : List Int} {w0 wr w1 : World} {i : Nat} {ys : List Int} {s0 s1 s2 s3 x : Int} (h : Inv_undo k0 k1 k2 k3 B L g cap l w0 wr i ys s0 s1 s2 s3) (hi : i < l.length) (hxd : x = rd l i) (hx : I32 x) (hBL : B ≤ L)
    (hg : wr.grownBy w1 (some L)) (hl : Lat L w1 k0 k1 k2 k3 (u0 x s3 k3 s2 k2 s1 k1 s0 k0) (addv s0 (mulv (u0 x s3 k3 s2 k2 s1 k1 s0 k0) k0)) (addv s1 (mulv (u1 x s3 k3 s2 k2 s1 k1) k1)) (addv s2 (mulv (u2 x s3 k3 s2 k2) k2))) :
    ((∃ u, w1.cell? ⟨g, i, none⟩ = some (.int .i32 u)) ∧ w1.frozen? ⟨g, i, none⟩ = false) ∧ g < L ∧
    Inv_undo k0 k1 k2 k3 B L g cap l w0 (w1.setCell ⟨g, i, none⟩ (.int .i32 (u0 x s3 k3 s2 k2 s1 k1 s0 k0))) (i + 1) (ys ++ [u0 x s3 k3 s2 k2 s1 k1 s0 k0]) (u0 x s3 k3 s2 k2 s1 k1 s0 k0) (addv s0 (mulv (u0 x s3 k3 s2 k2 s1 k1 s0 k0) k0)) (addv s1 (mulv (u1 x s3 k3 s2 k2 s1 k1) k1)) (addv s2 (mulv (u2 x s3 k3 s2 k2) k2)) := by
  have hgL : g < L := h.row.1 g (by simp [Value.ownBlock])
  have hrow := Kd.R_grown h.row hg (fun k hk => by intro e; injection e with e; omega)
  have hc := Kd.R_celln (0 : Int) hrow (i : Int) (by omega) (by omega)
  rw [Int.toNat_natCast] at hc
  have hp := Kd.R_putn hrow (i : Int) (u0 x s3 k3 s2 k2 s1 k1 s0 k0)
  rw [Int.toNat_natCast] at hp
  have hlen := h.len
  have hdrop : l.drop i = x :: l.drop (i + 1) := by
    rw [List.drop_eq_getElem_cons hi]
    congr 1
    rw [hxd]
    unfold rd
    rw [List.getD_eq_getElem?_getD, Int.toNat_natCast, List.getElem?_eq_getElem hi]; rfl
  refine ⟨⟨⟨_, hc.1⟩, hc.2⟩, hgL, ?_, ?_, ?_, ?_, ?_, ?_⟩
  · simp [hlen]
  · have e : (ys ++ l.drop i).set i (u0 x s3 k3 s2 k2 s1 k1 s0 k0) = (ys ++ [u0 x s3 k3 s2 k2 s1 k1 s0 k0]) ++ l.drop (i + 1) := by
      rw [hdrop, List.set_append_right _ _ (by omega), hlen, Nat.sub_self, List.set_cons_zero]
      simp
    rw [← e]
    exact hp
  · exact ⟨(Below.heap_setCell _ _ _ _ (by show L ≠ g; omega)).trans hl.box⟩
  · exact ⟨addv_bd _ _, addv_bd _ _, addv_bd _ _, addv_bd _ _⟩
  · have e := h.full
    rw [hdrop] at e
    rw [← e]
    simp only [undoL, List.append_assoc, List.singleton_append]
  · exact (h.below.grown hg (Nat.le_trans hBL (Nat.le_of_lt h.lat.lt)) (fun k hk => by injection hk with hk; omega)).setCell (by
      show B ≤ g
      exact Kd.R_base h.row g (by simp [Value.ownBlock])) _
set_option maxRecDepth 100000 in
set_option maxHeartbeats 2000000 in
theorem thr_on_undo (A : Option Addr) (c : Nat) (l : List Int) (i0 i1 i2 i3 : Int) (w : World) (hr : Kd.C (Kd.int .i32) w A l.length l) (hl : l.length ≤ 120) (hx : ∀ x ∈ l, I32 x) (hf : Fok 1 i0 i1 i2 i3) (hne : l ≠ []) :
    Calls Try.prog 76 #[.slice A l.length c, fval 1 i0 i1 i2 i3, .func (.func 78) #[] #[]] w fun e w' => ∃ v, e = .returned (.tuple #[v, .int .i64 0]) ∧ Kd.R (Kd.int .i32) 21 w' w.heap.size (fun _ => True) v (undoL (pv i0) (pv i1) (pv i2) (pv i3) l 0 0 0 0) ∧ Below w.heap.size w w' := by
  have hpos : 0 < l.length := List.length_pos_iff.mpr hne
  have h1 : ¬ (120 : Int) < (l.length : Int) := by omega
  have hid := Lib.hid hf
  have Hr := Lib.hid hr
  have Hx := Lib.hid hx
  clear hf hr hx
  have hF := Fil.start w 51 1 i0 i1 i2 i3
  go_enter Try.func76, Try.ntmps76
  go_wp2_with (first
    | (go_at_call 36; refine (tcheck_any 1 i0 i1 i2 i3 0 _ (by rw [if_pos hid.out])).mono ?_; rintro e w1 ⟨rfl, hg⟩; (replace hF := hF.grow hg); clear hg)
    | (go_at_call 99; refine (clone32_any A c l _ (Kd.C_below Hr.out hF.below) (by omega)).mono ?_; rintro e w2 ⟨v, rfl, hR, hb⟩; (have hle := hF.below.size); (replace hF := hF.grow (grown_of_below hb none)); (replace hR := Kd.R_lower hR hle); (obtain ⟨A', cap, rfl, hcc, hC⟩ := Kd.R_reads hR); (obtain ⟨ad, rfl, _⟩ := hC.2.2 hpos); (obtain ⟨g, rfl⟩ := Kd.R_head hR); (replace hR := Lib.hid hR); clear hb hle hC; (obtain ⟨d0, d1, d2, d3, d4⟩ := hF.cells))
    | (go_at_call 74; refine (tof_any i0 i1 i2 i3 _ (by have := hid.out.2.1; unfold fin at this; omega) (by have := hid.out.2.2.1; unfold fin at this; omega) (by have := hid.out.2.2.2.1; unfold fin at this; omega) (by have := hid.out.2.2.2.2; unfold fin at this; omega) 1).mono ?_; rintro e w3 ⟨rfl, hO⟩; (have hI : Inv_undo (pv i0) (pv i1) (pv i2) (pv i3) w.heap.size (w2.heap.size + 1) g cap l w w3 0 [] 0 0 0 0 := ⟨rfl, Kd.R_mono (Kd.R_below (Kd.R_bound hR.out) (below_of_grown hO.grown)) (fun k hk => Nat.lt_succ_of_lt hk.2.2.1), hO.lat, ⟨by unfold I32; omega, by unfold I32; omega, by unfold I32; omega, by unfold I32; omega⟩, rfl, hF.below.grown hO.grown hF.below.size (by simp)⟩); (have hBL : Hid (w.heap.size ≤ w2.heap.size + 1) := Nat.le_succ_of_le hF.below.size); clear hO d0 d1 d2 d3 d4 hF hR hcc))
  go_loopw [31] (fun i wr => ∃ k : Nat, k ≤ l.length ∧ i = .int .i64 k ∧ ∃ ys s0 s1 s2 s3, Inv_undo (pv i0) (pv i1) (pv i2) (pv i3) w.heap.size (w2.heap.size + 1) g cap l w wr k ys s0 s1 s2 s3) (fun i _ => l.length - (intOf i).toNat)
  case atStart => exact ⟨0, by omega, rfl, [], 0, 0, 0, 0, hI⟩
  case round =>
    obtain ⟨k, hk, rfl, ys, s0, s1, s2, s3, hM⟩ := hrel
    by_cases hlt : k < l.length
    · have hkl : (k : Int) < (l.length : Int) := by omega
      have hk0 : (0 : Int) ≤ (k : Int) := by omega
      have c0 := hM.cell hlt
      have hxx : I32 (rd l k) := Hx.out _ (rd_mem l k (by omega) hkl)
      have hmem := Lib.hid hxx
      generalize hxd : rd l k = x at c0 hxx hmem
      have Hxd := Lib.hid hxd
      clear hxd
      clear hxx
      go_wp2_with (go_at_call 78; refine (undo_any (w2.heap.size + 1) _ (pv i0) (pv i1) (pv i2) (pv i3) s0 s1 s2 s3 x hM.lat ⟨pv_bd _, pv_bd _, pv_bd _, pv_bd _⟩ hM.bds hmem.out _ _ _ _ rfl rfl rfl rfl).mono ?_; rintro e w4 ⟨rfl, hg, hl4⟩; (obtain ⟨⟨⟨u, cu⟩, cf⟩, hgL, hI2⟩ := hM.step hlt Hxd.out.symm hmem.out hBL.out hg hl4); clear hg hl4)
      refine ⟨⟨k + 1, hlt, by push_cast; rfl, _, _, _, _, _, hI2⟩, ?_⟩
      simp [intOf]; omega
    · obtain rfl : k = l.length := by omega
      have hkl : ¬ (l.length : Int) < (l.length : Int) := by omega
      go_wp2
      go_ret2
      refine ⟨_, rfl, ?_, hM.below⟩
      have hr2 := hM.row
      have hf2 := hM.full
      rw [List.drop_eq_nil_of_le (Nat.le_refl _), List.append_nil] at hr2
      rw [List.drop_eq_nil_of_le (Nat.le_refl _)] at hf2
      simp only [undoL, List.append_nil] at hf2
      rw [← hf2]
      exact Kd.R_mono hr2 (fun _ _ => trivial)

set_option maxRecDepth 100000 in
set_option maxHeartbeats 2000000 in
theorem thr_nil (A : Option Addr) (c : Nat) (i0 i1 i2 i3 : Int) (v2 : Value) (w : World) (hr : Kd.C (Kd.int .i32) w A 0 []) (hf : Fok 1 i0 i1 i2 i3) :
    Calls Try.prog 76 #[.slice A 0 c, fval 1 i0 i1 i2 i3, v2] w fun e w' => ∃ v, e = .returned (.tuple #[v, .int .i64 0]) ∧ Kd.R (Kd.int .i32) 21 w' w.heap.size (fun _ => True) v [] ∧ Below w.heap.size w w' := by
  have hid := Lib.hid hf
  have Hr := Lib.hid hr
  clear hf hr
  have hF := Fil.start w 51 1 i0 i1 i2 i3
  go_enter Try.func76, Try.ntmps76
  go_wp2_with (first
    | (go_at_call 36; refine (tcheck_any 1 i0 i1 i2 i3 0 _ (by rw [if_pos hid.out])).mono ?_; rintro e w1 ⟨rfl, hg⟩; (replace hF := hF.grow hg); clear hg)
    | (go_at_call 99; refine (clone32_any A c [] _ (Kd.C_below Hr.out hF.below) (by simp)).mono ?_; rintro e w2 ⟨v, rfl, hR, hb⟩; (have hle := hF.below.size); (replace hF := hF.grow (grown_of_below hb none)); (replace hR := Kd.R_lower hR hle); (obtain ⟨A', cap, rfl, hcc, hC⟩ := Kd.R_reads hR); (replace hR := Lib.hid hR); clear hb hle hC; (obtain ⟨d0, d1, d2, d3, d4⟩ := hF.cells))
    | (go_at_call 74; refine (tof_any i0 i1 i2 i3 _ (by have := hid.out.2.1; unfold fin at this; omega) (by have := hid.out.2.2.1; unfold fin at this; omega) (by have := hid.out.2.2.2.1; unfold fin at this; omega) (by have := hid.out.2.2.2.2; unfold fin at this; omega) 1).mono ?_; rintro e w3 ⟨rfl, hO⟩; (have hI : Hid (Kd.R (Kd.int .i32) 21 w3 w.heap.size (fun _ => True) (.slice A' 0 cap) [] ∧ Below w.heap.size w w3) := ⟨Kd.R_below hR.out (below_of_grown hO.grown), hF.below.grown hO.grown hF.below.size (by simp)⟩); clear hO d0 d1 d2 d3 d4 hF hR hcc))
  go_loopw [31] (fun i wr => i = .int .i64 0 ∧ wr = w3) (fun i _ => 0)
  case atStart => exact ⟨rfl, rfl⟩
  case round =>
    obtain ⟨rfl, rfl⟩ := hrel
    go_wp2
    go_ret2
    exact ⟨_, rfl, hI.out⟩
end Go.Proofs.YtojlgjdebokelabH
