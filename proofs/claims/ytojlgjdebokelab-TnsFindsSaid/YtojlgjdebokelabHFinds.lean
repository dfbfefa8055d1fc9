import Derived.Test.YtojlgjdebokelabHFd
import Derived.Deep.DrawnRows
import Derived.StillTailTactics
import Derived.Deep.DeepCutAuto
import Derived.Deep.RegionWith
import Derived.Test.YtojlgjdebokelabPLib5x
import Derived.Laws.StructEq
set_option linter.unusedVariables false
set_option linter.unusedSimpArgs false
namespace Go.Proofs.YtojlgjdebokelabH
open Go.RowKit Go.Proofs.YtojlgjdebokelabW.PrintWords Go.Proofs.YtojlgjdebokelabW.PrintMore Go.Proofs.YtojlgjdebokelabW
open Go.Proofs.Ytojlgjdebokelab.PLib4
theorem rbits_l0 : ∀ (f : Nat) (x : Nat) (c : Int), x < 2 ^ f → 0 ≤ c → c + f ≤ 1000 → f ≤ 64 → psalteryref02_Bits.l0 (f + 1) x c = some (c + (Lib.bitLenAux f x : Nat))
  | 0, x, c, h, h0, h1, hf => by
    have : x = 0 := by omega
    subst this
    simp [psalteryref02_Bits.l0, Lib.bitLenAux]
  | f + 1, x, c, h, h0, h1, hf => by
    unfold psalteryref02_Bits.l0
    by_cases hx : x = 0
    · subst hx
      rw [if_neg (by omega)]
      simp [Lib.bitLenAux]
    · rw [if_pos (by omega)]
      have e1 : (x : Int).tdiv 2 = ((x / 2 : Nat) : Int) := by rw [Int.tdiv_eq_ediv_of_nonneg (by omega)]; rfl
      have hlt : x < 2 ^ 64 := Nat.lt_of_lt_of_le h (Nat.pow_le_pow_right (by omega) hf)
      have e2 : IntKind.u64.wrap ((x / 2 : Nat) : Int) = ((x / 2 : Nat) : Int) := by
        simp only [IntKind.wrap, IntKind.bits, IntKind.signed]; simp; omega
      have e3 : wrap64 (c + 1) = c + 1 := by unfold wrap64; omega
      rw [e1, e2, e3, rbits_l0 f (x / 2) (c + 1) (by rw [Nat.pow_succ] at h; omega) (by omega) (by omega) (by omega)]
      show _ = some (c + ((if x = 0 then 0 else 1 + Lib.bitLenAux f (x / 2) : Nat) : Int))
      rw [if_neg hx]
      congr 1
      push_cast
      omega
theorem rbits_any (n : Int) (w : World) (h0 : 0 ≤ n) (h1 : n ≤ 18446744073709551615) :
    Calls Try.prog 64 #[.int .u64 n] w fun e w' => e = .returned (.int .i64 (Lib.bitLen n.toNat : Nat)) ∧ ∃ k, w' = w.drewN k := by
  refine (psalteryref02_Bits.calls 65 n (Lib.bitLen n.toNat : Nat) w ?_).mono fun e w' h => ⟨h.1, h.2.out⟩
  have := rbits_l0 64 n.toNat 0 (by omega) (by omega) (by omega) (by omega)
  rw [Int.toNat_of_nonneg h0, Int.zero_add] at this
  exact this
theorem half_any (n : Int) (hn : -9223372036854775807 ≤ n ∧ n ≤ 9223372036854775807) : (if n < 0 then wrap64 (Int.tdiv (wrap64 (n - 1)) 2) else wrap64 (Int.tdiv n 2)) = n / 2 := by
  have hw : wrap64 (n - 1) = n - 1 := by unfold wrap64; omega
  rw [hw]
  by_cases h : n < 0
  · rw [if_pos h]
    have : Int.tdiv (n - 1) 2 = n / 2 := by
      have e : n - 1 = -(-(n - 1)) := by omega
      rw [e, Int.neg_tdiv, Int.tdiv_eq_ediv_of_nonneg (by omega)]
      omega
    rw [this]; unfold wrap64; omega
  · rw [if_neg h, Int.tdiv_eq_ediv_of_nonneg (by omega)]; unfold wrap64; omega
theorem rdown_l0 (t : Nat) (ht : t ≤ 1000) : ∀ (d i : Nat) (n : Int), i + d = t → -9223372036854775807 ≤ n → n ≤ 9223372036854775807 → psalteryref17_down.l0 (d + 1) n t i = some (n / 2 ^ d)
  | 0, i, n, h, h0, h1 => by
    unfold psalteryref17_down.l0
    rw [if_neg (by omega)]; simp
  | d + 1, i, n, h, h0, h1 => by
    have hh := half_any n ⟨h0, h1⟩
    unfold psalteryref17_down.l0
    rw [if_pos (by omega)]
    have e3 : wrap64 ((i : Int) + 1) = ((i + 1 : Nat) : Int) := by unfold wrap64; push_cast; omega
    have ih := rdown_l0 t ht d (i + 1) (n / 2) (by omega) (by omega) (by omega)
    rw [e3]
    have e4 : n / 2 / 2 ^ d = n / 2 ^ (d + 1) := by
      rw [Int.ediv_ediv_of_nonneg (by decide), Int.pow_succ, Int.mul_comm]
    by_cases hn : n < 0
    · rw [if_pos hn] at hh ⊢
      rw [hh, ih, e4]
    · rw [if_neg hn] at hh ⊢
      rw [hh, ih, e4]
theorem rdown_any (n h : Int) (w : World) (hn : I32 n) (h0 : 0 ≤ h) (h1 : h ≤ 17) :
    Calls Try.prog 65 #[.int .i64 n, .int .i64 h] w fun e w' => e = .returned (.int .i64 (n / 2 ^ h.toNat)) ∧ ∃ k, w' = w.drewN k := by
  unfold I32 at hn
  refine (psalteryref17_down.calls (h.toNat + 1) n h (n / 2 ^ h.toNat) w ?_).mono fun e w' hh => ⟨hh.1, hh.2.out⟩
  have := rdown_l0 h.toNat (by omega) h.toNat 0 n (by omega) (by omega) (by omega)
  rw [Int.toNat_of_nonneg h0] at this
  exact this
theorem rapart_any (k i : Int) (w : World) (hk : -32767 ≤ k ∧ k ≤ 32767) :
    Calls Try.prog 66 #[.int .i64 k, .int .i64 (pv i)] w fun e w' => e = .returned (.int .i64 (far k i)) ∧ ∃ n, w' = w.drewN n := by
  have hb := pv_bd i
  unfold I16 at hb
  refine (psalteryref17_apart.calls k (pv i) (far k i) w ?_).mono fun e w' hh => ⟨hh.1, hh.2.out⟩
  unfold psalteryref17_apart.f far
  by_cases h : k > pv i
  · rw [if_pos h]; congr 1; unfold wrap64; omega
  · rw [if_neg h]; congr 1; unfold wrap64; omega
theorem rrndq_any (n s : Int) (w : World) (hn : -9223372036854775808 ≤ n ∧ n ≤ 9223372036854775807) :
    Calls Try.prog 52 #[.int .i64 n, .int .i64 s] w fun e w' => e = .returned (.int .i64 (rnd n s)) ∧ ∃ k, w' = w.drewN k :=
  (rnd_any n s w hn).mono fun _ _ h => ⟨h.1, 0, h.2.symm⟩
theorem absmax (m x : Int) (hm : 0 ≤ m) : (if m < (if x < 0 then -x else x) then (if x < 0 then -x else x) else m) = mx3 m x := by
  unfold mx3
  by_cases h : x < 0 <;> simp only [h, if_true, if_false] <;> split <;> split <;> omega
end Go.Proofs.YtojlgjdebokelabH

namespace Go.Proofs.YtojlgjdebokelabH
open Go.RowKit Go.Proofs.YtojlgjdebokelabW.PrintWords Go.Proofs.YtojlgjdebokelabW.PrintMore Go.Proofs.YtojlgjdebokelabW
attribute [local go_sem ↓] Go.wp_at_zero Go.wp_at_succ
def pL (k : Int) (u v : List Int) : List Int := (List.range (u.length - 1)).map fun (i : Nat) => wrap64 (rd u ((i + 1 : Nat) : Int) + rnd (wrap64 (k * rd v ((i + 1 : Nat) : Int))) 15)
def qL (k : Int) (u v : List Int) : List Int := (List.range u.length).map fun (i : Nat) => wrap64 (rd v (i : Int) + rnd (wrap64 (k * rd u (i : Int))) 15)
structure RfS where
  u : List Int
  v : List Int
  f : Nat → Int
  e : Bool
def rfS (r : Nat → Int) : Nat → RfS
  | 0 => ⟨[r 1, r 2, r 3, r 4], [r 0, r 1, r 2, r 3], fun _ => 0, true⟩
  | m + 1 => ⟨pL (fdK (rfS r m).u (rfS r m).v) (rfS r m).u (rfS r m).v, qL (fdK (rfS r m).u (rfS r m).v) (rfS r m).u (rfS r m).v, upg (rfS r m).f m (nearN (fdK (rfS r m).u (rfS r m).v) 17), (rfS r m).e && decide (nearN (fdK (rfS r m).u (rfS r m).v) 17 = 8)⟩
def rfVal (r : Nat → Int) (s : RfS) : Value := if r 0 ≤ 0 ∨ wrap64 (2 * r 0) < wrap64 (3 * rd s.v 0) ∨ s.e = true then fval 0 0 0 0 0 else fval 1 (s.f 0) (s.f 1) (s.f 2) (s.f 3)
def rfV (r : Nat → Int) : Value := rfVal r (rfS r 4)
def RfPost (w : World) (l : List Int) (e : Ending) (w' : World) : Prop := e = .returned (rfV (alk l)) ∧ Below w.heap.size w w'
/-- The lines, halved so many times. -/
def alv (l : List Int) (h : Int) (k : Nat) : List Int := (l.take k).map fun x => x / 2 ^ h.toNat
theorem alv_succ (l : List Int) (h : Int) (k : Nat) (hk : k < l.length) : alv l h (k + 1) = alv l h k ++ [rd l (k : Int) / 2 ^ h.toNat] := by
  unfold alv
  rw [List.take_succ_eq_append_getElem hk, List.map_append]
  congr 2
  unfold rd
  rw [List.getD_eq_getElem?_getD, Int.toNat_natCast, List.getElem?_eq_getElem hk]; rfl
theorem alv_len (l : List Int) (h : Int) (k : Nat) (hk : k ≤ l.length) : (alv l h k).length = k := by
  unfold alv; simp; omega
theorem alv_rd (l : List Int) (h : Int) (i : Nat) (hi : i < l.length) : rd (alv l h l.length) (i : Int) = rd l (i : Int) / 2 ^ h.toNat := by
  unfold alv rd
  rw [List.take_length, List.getD_eq_getElem?_getD, List.getD_eq_getElem?_getD, Int.toNat_natCast, List.getElem?_map, List.getElem?_eq_getElem hi]; rfl
theorem acc_step (l : List Int) (h : Int) (j n : Nat) (q : Int) (hx : ∀ x ∈ l, I32 x) (h0 : 0 ≤ h) (hn : n + j < l.length) (hq : q = accS l h j n) :
    accS l h j (n + 1) = wrap64 (q + wrap64 (rd (alv l h l.length) (n : Int) * rd (alv l h l.length) ((n + j : Nat) : Int))) := by
  have bd : ∀ i : Nat, i < l.length → wrap64 (rd l (i : Int) / 2 ^ h.toNat) = rd l (i : Int) / 2 ^ h.toNat := fun i hi => by
    have := hx _ (rd_mem l (i : Int) (by omega) (by omega))
    unfold I32 at this
    generalize rd l (i : Int) = x at this
    have hp : (0 : Int) < 2 ^ h.toNat := Int.pow_pos (by decide)
    have e1 : x / 2 ^ h.toNat ≤ 2147483647 := by
      rcases Int.le_total 0 x with h | h
      · exact Int.le_trans (Int.ediv_le_self _ h) this.2
      · exact Int.le_trans (Int.ediv_le_ediv hp h) (by simp)
    have e2 : -2147483648 ≤ x / 2 ^ h.toNat := by
      rw [Int.le_ediv_iff_mul_le hp]
      have : (-2147483648 : Int) * 2 ^ h.toNat ≤ -2147483648 * 1 := Int.mul_le_mul_of_nonpos_left (by decide) (by omega)
      omega
    unfold wrap64; omega
  rw [alv_rd l h n (by omega), alv_rd l h (n + j) hn, hq]
  show wrap64 (accS l h j n + wrap64 (wrap64 (rd l ((n + j : Nat) : Int) / 2 ^ h.toNat) * wrap64 (rd l (n : Int) / 2 ^ h.toNat))) = _
  rw [bd n (by omega), bd (n + j) hn, Int.mul_comm]
structure ArRel (H : Nat) (w wr : World) (g : Nat → Int) (av : Value) (al : List Int) : Prop where
  out : wr.heap[w.heap.size]? = some (.cells (row5 0 0 0 0 0) 54 (0, 0))
  acc : wr.heap[H]? = some (.cells (rowg g) 105 (0, 0))
  row : Kd.R (Kd.int .i64) 2 wr w.heap.size (fun _ => True) av al
  hH : w.heap.size < H
  below : Below w.heap.size w wr
theorem ArRel.put0 {H : Nat} {w wr : World} {g : Nat → Int} {av : Value} {al : List Int} (h : ArRel H w wr g av al) (j : Nat) (v : Int) (hj : j < 5) : ArRel H w (wr.setCell ⟨H, j, none⟩ (.int .i64 v)) (upg g j v) av al :=
  ⟨blk_far h.out (by have := h.hH; show w.heap.size ≠ H; omega) _, blk_put h.acc j _ (rowg_set g j v hj), Kd.R_set h.row h.acc (by simp [Kd.int, Kd.scalar]) j _, h.hH, h.below.setCell (by have := h.hH; show w.heap.size ≤ H; omega) _⟩
theorem ArRel.drew1 {H : Nat} {w wr : World} {g : Nat → Int} {av : Value} {al : List Int} (h : ArRel H w wr g av al) : ArRel H w wr.drew g av al := ⟨blk_drew h.out, blk_drew h.acc, Kd.R_drewN h.row 1, h.hH, pw_below_drewN h.below 1⟩
theorem R_at {k : IntKind} {e base : Nat} {w : World} {A : Option Addr} {n c : Nat} {xs : List Int} (h : Kd.R (Kd.int k) e w base (fun _ => True) (.slice A n c) xs) (i : Nat) (hi : i < xs.length) :
    ∃ g, A = some ⟨g, 0, none⟩ ∧ n = xs.length ∧ w.cell? ⟨g, i, none⟩ = some (.int k (rd xs (i : Int))) ∧ w.frozen? ⟨g, i, none⟩ = false ∧ g < w.heap.size := by
  obtain ⟨g, c', e1, _, hlt, hR⟩ := R_fixed h (by omega)
  injection e1 with e1 e2 _
  have := Kd.R_celln (0 : Int) hR (i : Int) (by omega) (by omega)
  rw [Int.toNat_natCast] at this
  exact ⟨g, e1, e2, this.1, this.2, hlt⟩
structure RfRel (H F : Nat) (w wr : World) (r f : Nat → Int) (u v : Value) (ul vl : List Int) : Prop where
  out : wr.heap[w.heap.size]? = some (.cells (row5 0 0 0 0 0) 54 (0, 0))
  arr : wr.heap[H]? = some (.cells (rowg r) 105 (0, 0))
  fil : wr.heap[F]? = some (.cells (row5 1 (f 0) (f 1) (f 2) (f 3)) 54 (0, 0))
  ru : Kd.R (Kd.int .i64) 2 wr w.heap.size (fun _ => True) u ul
  rv : Kd.R (Kd.int .i64) 2 wr w.heap.size (fun _ => True) v vl
  hF : w.heap.size < F
  below : Below w.heap.size w wr
section
variable {H F : Nat} {w wr : World} {r f : Nat → Int} {u v : Value} {ul vl : List Int}
theorem RfRel.drew (h : RfRel H F w wr r f u v ul vl) (n : Nat) : RfRel H F w (wr.drewN n) r f u v ul vl :=
  ⟨blk_drewN h.out n, blk_drewN h.arr n, blk_drewN h.fil n, Kd.R_drewN h.ru n, Kd.R_drewN h.rv n, h.hF, pw_below_drewN h.below n⟩
theorem RfRel.putF (h : RfRel H F w wr r f u v ul vl) (j : Nat) (x : Int) (hj : j < 4) : RfRel H F w (wr.setCell ⟨F, 1 + j, none⟩ (.int .i64 x)) r (upg f j x) u v ul vl :=
  ⟨blk_far h.out (by have := h.hF; show w.heap.size ≠ F; omega) _, blk_far h.arr (blk_ne h.arr h.fil (by decide)) _, blk_put h.fil (1 + j) _ (fil_set f j x hj), Kd.R_set h.ru h.fil (by simp [Kd.int, Kd.scalar]) _ _, Kd.R_set h.rv h.fil (by simp [Kd.int, Kd.scalar]) _ _, h.hF, h.below.setCell (by have := h.hF; show w.heap.size ≤ F; omega) _⟩
end
theorem RI_grown {w w1 : World} {base : Nat} {v : Value} {xs : List Int} (h : Kd.R (Kd.int .i64) 2 w base (fun _ => True) v xs) {row : Option Nat} (hg : w.grownBy w1 row) (hne : ∀ k, v.ownBlock = some k → some k ≠ row) : Kd.R (Kd.int .i64) 2 w1 base (fun _ => True) v xs :=
  Kd.R_mono (Kd.R_grown (Kd.R_flat (ok' := fun k => v.ownBlock = some k) (fun h => h) h (fun k hk _ => hk)) hg hne) (fun _ _ => trivial)
structure RgRel (H F : Nat) (w wr : World) (r f : Nat → Int) (u v : Value) (ul vl : List Int) (p : Value) (pl : List Int) (q : Value) (ql : List Int) : Prop where
  rf : RfRel H F w wr r f u v ul vl
  rp : Kd.R (Kd.int .i64) 2 wr w.heap.size (fun _ => True) p pl
  rq : Kd.R (Kd.int .i64) 2 wr w.heap.size (fun _ => True) q ql
  pq : NeRow p q
  pu : NeRow p u
  pv : NeRow p v
  qu : NeRow q u
  qv : NeRow q v
section
variable {H F : Nat} {w wr w1 : World} {r f : Nat → Int} {u v p q p1 q1 : Value} {ul vl pl ql xs : List Int}
theorem RgRel.start (h : RfRel H F w wr r f u v ul vl) : RgRel H F w wr r f u v ul vl (.slice none 0 0) [] (.slice none 0 0) [] :=
  ⟨h, Kd.R_nil _ _ _ _ _, Kd.R_nil _ _ _ _ _, ne_nil _, ne_nil _, ne_nil _, ne_nil _, ne_nil _⟩
theorem RgRel.drew (h : RgRel H F w wr r f u v ul vl p pl q ql) (n : Nat) : RgRel H F w (wr.drewN n) r f u v ul vl p pl q ql :=
  ⟨h.rf.drew n, Kd.R_drewN h.rp n, Kd.R_drewN h.rq n, h.pq, h.pu, h.pv, h.qu, h.qv⟩
theorem ne_row {a b : Value} (h : NeRow a b) : ∀ k, b.ownBlock = some k → some k ≠ a.ownBlock := fun k hk e => h k e.symm hk
theorem RgRel.pushP (h : RgRel H F w wr r f u v ul vl p pl q ql) (hg : wr.grownBy w1 p.ownBlock) (hR : Kd.R (Kd.int .i64) 2 w1 w.heap.size (fun _ => True) p1 xs)
    (hat : p1.ownBlock = p.ownBlock ∨ ∃ b, p1.ownBlock = some b ∧ wr.heap.size ≤ b) (hB : Below w.heap.size w w1) : RgRel H F w w1 r f u v ul vl p1 xs q ql := by
  obtain ⟨iu, hu⟩ := Kd.R_own h.rf.ru
  obtain ⟨iv, hv⟩ := Kd.R_own h.rf.rv
  obtain ⟨iq, hq⟩ := Kd.R_own h.rq
  exact ⟨⟨blk_grown h.rf.out hg (Kd.R_ne h.rp h.rf.out (by decide)), blk_grown h.rf.arr hg (Kd.R_ne h.rp h.rf.arr (by decide)), blk_grown h.rf.fil hg (Kd.R_ne h.rp h.rf.fil (by decide)), RI_grown h.rf.ru hg (ne_row h.pu), RI_grown h.rf.rv hg (ne_row h.pv), h.rf.hF, hB⟩,
    hR, RI_grown h.rq hg (ne_row h.pq), ne_append h.pq hat hq, ne_append h.pu hat hu, ne_append h.pv hat hv, h.qu, h.qv⟩
theorem RgRel.pushQ (h : RgRel H F w wr r f u v ul vl p pl q ql) (hg : wr.grownBy w1 q.ownBlock) (hR : Kd.R (Kd.int .i64) 2 w1 w.heap.size (fun _ => True) q1 xs)
    (hat : q1.ownBlock = q.ownBlock ∨ ∃ b, q1.ownBlock = some b ∧ wr.heap.size ≤ b) (hB : Below w.heap.size w w1) : RgRel H F w w1 r f u v ul vl p pl q1 xs := by
  obtain ⟨iu, hu⟩ := Kd.R_own h.rf.ru
  obtain ⟨iv, hv⟩ := Kd.R_own h.rf.rv
  obtain ⟨ip, hp⟩ := Kd.R_own h.rp
  exact ⟨⟨blk_grown h.rf.out hg (Kd.R_ne h.rq h.rf.out (by decide)), blk_grown h.rf.arr hg (Kd.R_ne h.rq h.rf.arr (by decide)), blk_grown h.rf.fil hg (Kd.R_ne h.rq h.rf.fil (by decide)), RI_grown h.rf.ru hg (ne_row h.qu), RI_grown h.rf.rv hg (ne_row h.qv), h.rf.hF, hB⟩,
    RI_grown h.rp hg (ne_row (ne_symm h.pq)), hR, ne_append' h.pq hat hp, h.pu, h.pv, ne_append h.qu hat hu, ne_append h.qv hat hv⟩
end
theorem RI_lit (W : World) (base : Nat) (xs : List Int) (hb : base ≤ W.heap.size) (hm : xs.length ≤ 1000) :
    Kd.R (Kd.int .i64) 2 (W.alloc (.cells (nums .i64 xs).toArray 2)) base (fun _ => True) (.slice (some ⟨W.heap.size, 0, none⟩) xs.length xs.length) xs :=
  Kd.R_of_own (own_lit W base 2 .i64 xs hb (by omega)) (fun _ _ => trivial)
theorem clamp_mm (n : Int) : max (min n 32767) (-32767) = clamp n (-32767) 32767 := by
  unfold clamp
  omega
theorem rf64_info : (Try.prog.info? 2).map (fun i => (i.zero, i.size, i.bytes)) = some (some (.int .i64 0), 1, 8) := clone64_info
theorem pL_step (k : Int) (u v : List Int) (j : Nat) (h : j + 1 < u.length) : (pL k u v).take (j + 1) = (pL k u v).take j ++ [wrap64 (rd u ((j + 1 : Nat) : Int) + rnd (wrap64 (k * rd v ((j + 1 : Nat) : Int))) 15)] := by
  unfold pL
  rw [List.take_succ_eq_append_getElem (by simp; omega)]
  simp
theorem pL_last (k : Int) (u v : List Int) (j : Nat) (h : ¬ j + 1 < u.length) : (pL k u v).take (j + 1) = (pL k u v).take j := by
  have : (pL k u v).length ≤ j := by unfold pL; simp; omega
  rw [List.take_of_length_le (by omega), List.take_of_length_le this]
theorem qL_step (k : Int) (u v : List Int) (j : Nat) (h : j < u.length) : (qL k u v).take (j + 1) = (qL k u v).take j ++ [wrap64 (rd v (j : Int) + rnd (wrap64 (k * rd u (j : Int))) 15)] := by
  unfold qL
  rw [List.take_succ_eq_append_getElem (by simp; omega)]
  simp
set_option maxRecDepth 100000 in
set_option maxHeartbeats 8000000 in
theorem rfind_any (A : Option Addr) (c : Nat) (l : List Int) (w : World) (hr : Kd.C (Kd.int .i32) w A l.length l) (hl : l.length ≤ 120) (hx : ∀ x ∈ l, I32 x) :
    Calls Try.prog 22 #[.slice A l.length c] w (RfPost w l) := by
  have Hr := Lib.hid hr
  have Hx := Lib.hid hx
  clear hr hx
  have hB0 : Hid (Below w.heap.size w (w.alloc (.cells (row5 0 0 0 0 0) 54))) := (Below.refl _ _).alloc (Nat.le_refl _) _
  have hO0 : Hid ((w.alloc (.cells (row5 0 0 0 0 0) 54)).heap[w.heap.size]? = some (.cells (row5 0 0 0 0 0) 54 (0, 0))) := heap_alloc_new w _
  go_enter Try.func22, Try.ntmps22
  go_wp2
  go_loopg [3, 4, 5] l.length (fun gk s3 s4 s5 wr => ∃ (k : Nat) (mv : Int), k ≤ l.length ∧ gk = l.length - k ∧ s4 = .int .i64 k ∧ s3 = .int .i64 mv ∧ Hid (mv = mostN l k) ∧ wr = w.alloc (.cells (row5 0 0 0 0 0) 54))
  case atStart => exact ⟨0, 0, by omega, rfl, rfl, rfl, rfl, rfl⟩
  case round =>
    obtain ⟨k, mv, hk, rfl, rfl, rfl, hmv, rfl⟩ := hrel
    have hmb := mostN_bd l Hx.out k hk
    rw [← hmv.out] at hmb
    obtain ⟨hm0, hm1⟩ := hmb
    by_cases hlt : k < l.length
    · have hkl : (k : Int) < (l.length : Int) := by omega
      have hk0 : (0 : Int) ≤ (k : Int) := by omega
      obtain ⟨ad, rfl, hc⟩ := Kd.at_int (Kd.C_alloc Hr.out (.cells (row5 0 0 0 0 0) 54)) (k : Int) hk0 hkl
      have hxx : I32 (rd l k) := Hx.out _ (rd_mem l k hk0 hkl)
      have hstep : Hid (mostN l (k + 1) = mx3 mv (rd l k)) := by show _ = _; rw [hmv.out]; rfl
      generalize rd l k = x at hc hxx hstep
      rw [Int.toNat_natCast] at hc
      obtain ⟨xb0, xb1⟩ := id hxx
      clear hxx
      go_wp2
      all_goals
        go_roundg (l.length - (k + 1))
        case measure => omega
        case rel => exact ⟨k + 1, _, hlt, rfl, by push_cast; rfl, rfl, (by show _ = _; rw [hstep.out]; unfold mx3; (repeat' split) <;> omega), rfl⟩
    · obtain rfl : k = l.length := by omega
      have hkl : ¬ (l.length : Int) < (l.length : Int) := by omega
      have hbl := bitLen_32 mv.toNat (by omega)
      go_wp2_with (go_at_call 64; refine (rbits_any mv _ hm0 (by omega)).mono ?_; rintro e w1 ⟨rfl, nb, rfl⟩; (have hsv : Hid (shv mv = max ((Lib.bitLen mv.toNat : Nat) - 15 : Int) 0) := rfl); (generalize Lib.bitLen mv.toNat = bl at hbl hsv ⊢); (have hbl0 : (0 : Int) ≤ (bl : Int) := by omega); (have hbl1 : (bl : Int) ≤ 32 := by omega))
      have hsh := shv_bd mv hm0 hm1
      rw [← hsv.out]
      have Hh : Hid (shv mv = shv (mostN l l.length)) := by show _ = _; rw [hmv.out]
      generalize shv mv = h at hsh Hh
      obtain ⟨hs0, hs1⟩ := hsh
      clear hsv hbl hbl0 hbl1
      replace hB0 := Lib.hid (pw_below_drewN hB0.out nb)
      replace hO0 := Lib.hid (blk_drewN hO0.out nb)
      go_loopg [7, 8] l.length (fun gk s7 s8 wr => ∃ k : Nat, k ≤ l.length ∧ gk = l.length - k ∧ s8 = .int .i64 k ∧ Kd.R (Kd.int .i64) 2 wr w.heap.size (fun _ => True) s7 (alv l h k) ∧ Below w.heap.size w wr ∧ wr.heap[w.heap.size]? = some (.cells (row5 0 0 0 0 0) 54 (0, 0)))
      case atStart => exact ⟨0, by omega, rfl, rfl, Kd.R_nil _ _ _ _ _, hB0.out, hO0.out⟩
      case round =>
        clear hB0 hO0
        obtain ⟨k, hk, rfl, rfl, hrow, hbel, hout⟩ := hrel
        replace hrow := Lib.hid hrow
        replace hbel := Lib.hid hbel
        replace hout := Lib.hid hout
        by_cases hlt : k < l.length
        · have hkl : (k : Int) < (l.length : Int) := by omega
          have hk0 : (0 : Int) ≤ (k : Int) := by omega
          obtain ⟨ad, rfl, hc⟩ := Kd.at_int (Kd.C_below Hr.out hbel.out) (k : Int) hk0 hkl
          have hxx := Lib.hid (Hx.out _ (rd_mem l k hk0 hkl))
          have hstep := Lib.hid (alv_succ l h k hlt)
          generalize rd l k = x at hc hxx hstep
          rw [Int.toNat_natCast] at hc
          obtain ⟨xb0, xb1⟩ := hxx.out
          have hal := alv_len l h k (by omega)
          have hlt0 := blk_lt hout.out
          have hle0 : w.heap.size ≤ wr.heap.size := by omega
          go_wp2_with (first
            | (go_at_call 65; refine (rdown_any x h _ hxx.out hs0 hs1).mono ?_; rintro e w1 ⟨rfl, nd, rfl⟩)
            | ((with_reducible refine gate_builtin (b := .append) (xs := #[.tmp 53, .tmp 61]) rfl ?_); at_builtin; refine Kd.R_append (Kd.int .i64) (w0 := w) w.heap.size rfl (.tmp 53) (.tmp 61) 37 2 (.int .i64 0) 8 rfl Try.underlying37 rf64_info rfl (by decide) (by decide) u7 (alv l h k) (x / 2 ^ h.toNat) [.int .i64 (x / 2 ^ h.toNat)] (fun _ => True) (fun _ => False) rfl rfl rfl (fun _ hk => hk.elim) (fun _ _ => trivial) (Kd.R_drewN hrow.out nd) (pw_below_drewN hbel.out nd) (by simp; omega) (by omega) ?_; intro v1 w1 hR hB hg hat; (have hO2 := Lib.hid (blk_grown (blk_drewN hout.out nd) hg (Kd.R_ne (Kd.R_drewN hrow.out nd) (blk_drewN hout.out nd) (by decide)))); (replace hR := Lib.hid hR); (replace hB := Lib.hid hB); clear hg hat))
          rw [← hstep.out] at hR
          go_roundg (l.length - (k + 1))
          case measure => omega
          case rel => exact ⟨k + 1, hlt, rfl, by push_cast; rfl, hR.out, hB.out, hO2.out⟩
        · obtain rfl : k = l.length := by omega
          have hal := alv_len l h l.length (by omega)
          obtain ⟨A7, c7, rfl, hc7, _⟩ := Kd.R_reads hrow.out
          have hHl := blk_lt hout.out
          have hst : Hid (ArRel wr.heap.size w (wr.alloc (.cells (row5 0 0 0 0 0) 105)) (fun _ => 0) (.slice A7 (alv l h l.length).length c7) (alv l h l.length)) :=
            ⟨blk_alloc hout.out _, heap_alloc_new wr _, Kd.R_alloc hrow.out _, hHl, hbel.out.alloc (by omega) _⟩
          have hkl : ¬ (l.length : Int) < (l.length : Int) := by omega
          go_wp2
          rw [hal] at hst
          have Hal := Lib.hid hal
          clear hal hrow hbel hout
          generalize wr.heap.size = H at hst hHl ⊢
          go_loopg [10, 11] 5 (fun gk s10 s11 wr => ∃ j : Nat, j ≤ 5 ∧ gk = 5 - j ∧ s10 = .int .i64 j ∧ ∃ g, Hid (∀ i, g i = if i < j then accS l h i (l.length - i) else 0) ∧ ArRel H w wr g (.slice A7 l.length c7) (alv l h l.length))
          case atStart => exact ⟨0, by omega, rfl, rfl, _, (fun i => by simp), hst.out⟩
          case round =>
            clear hst
            obtain ⟨j, hj, rfl, rfl, g, hg, hM⟩ := hrel
            by_cases hj5 : j < 5
            · have hj0 : (0 : Int) ≤ (j : Int) := by omega
              have hj1 : (j : Int) < 5 := by omega
              have hM' := Lib.hid hM
              clear hM
              go_wp2
              go_loopg [11] (l.length - j) (fun gk s11 wr => ∃ (n : Nat) (g' : Nat → Int), s11 = .int .i64 n ∧ n ≤ l.length - j ∧ gk = l.length - j - n ∧ Hid (g' = upg g j (accS l h j n)) ∧ ArRel H w wr g' (.slice A7 l.length c7) (alv l h l.length))
              case atStart =>
                refine ⟨0, g, rfl, by omega, rfl, ?_, hM'.out⟩
                show _ = _
                funext i
                unfold upg
                split
                · subst i; rw [hg.out j, if_neg (by omega)]; rfl
                · rfl
              case round =>
                clear hM'
                obtain ⟨n, g', rfl, hn, rfl, hq, hM⟩ := hrel
                by_cases hlt : n + j < l.length
                · have hkl2 : (n : Int) + (j : Int) < (l.length : Int) := by omega
                  have hk2 : (0 : Int) ≤ (n : Int) := by omega
                  have hk3 : (0 : Int) ≤ (n : Int) + (j : Int) := by omega
                  have hk4 : (n : Int) < (l.length : Int) := by omega
                  obtain ⟨ga, rfl, -, ca, -, hga⟩ := R_at hM.row n (by rw [Hal.out]; omega)
                  obtain ⟨ga', e1, -, cb, -, -⟩ := R_at hM.row (n + j) (by rw [Hal.out]; omega)
                  obtain rfl : ga = ga' := by injection e1 with e1; injection e1 with e1
                  clear e1
                  have hqj : g' j = accS l h j n := by rw [hq.out]; unfold upg; rw [if_pos rfl]
                  generalize hqe : g' j = q at hqj
                  have hstep := Lib.hid (acc_step l h j n q Hx.out hs0 hlt hqj)
                  have d0 : wr.cell? ⟨H, j, none⟩ = some (.int .i64 q) := by rw [← hqe]; exact (blk_cell hM.acc j).trans (rowg_at g' j hj5)
                  have g0 := blk_frozen hM.acc j
                  clear hqe hqj
                  generalize rd (alv l h l.length) ((n : Nat) : Int) = x at ca hstep
                  generalize rd (alv l h l.length) ((n + j : Nat) : Int) = y at cb hstep
                  go_wp2_with fail
                  have ht : ((n : Int) + (j : Int)).toNat = n + j := by omega
                  have hwr : IntKind.i64.wrap ((n : Int) + (j : Int)) = (n : Int) + (j : Int) := IntWalk.i64_in _ (by omega)
                  go_still_tail 17, (by kernel_rfl)
                  change wpList _ _ _ _ _ wr.drew
                  have hM3 := Lib.hid (hM.put0 j (wrap64 (q + wrap64 (x * y))) hj5).drew1
                  have hq2 : Hid (upg g' j (wrap64 (q + wrap64 (x * y))) = upg g j (accS l h j (n + 1))) := by
                    show _ = _
                    rw [hstep.out, hq.out]; funext i; unfold upg; split <;> rfl
                  clear hM
                  go_wp2
                  go_roundg (l.length - j - (n + 1))
                  case measure => omega
                  case rel => exact ⟨n + 1, _, by push_cast; rfl, by omega, rfl, hq2, hM3.out⟩
                · have hkl2 : ¬ (n : Int) + (j : Int) < (l.length : Int) := by omega
                  have hM3 := Lib.hid hM
                  clear hM
                  go_wp2
                  go_roundg (5 - (j + 1))
                  case measure => omega
                  case rel =>
                    refine ⟨j + 1, by omega, rfl, by push_cast; rfl, g', ?_, hM3.out⟩
                    show ∀ i, _
                    intro i
                    rw [hq.out]; unfold upg
                    by_cases hi : i = j
                    · subst hi
                      rw [if_pos rfl, if_pos (by omega)]
                      congr 1; omega
                    · rw [if_neg hi, hg.out i]
                      by_cases hi2 : i < j
                      · rw [if_pos hi2, if_pos (by omega)]
                      · rw [if_neg hi2, if_neg (by omega)]
            · obtain rfl : j = 5 := by omega
              have hge : ∀ i, i < 5 → g i = alk l i := fun i hi => by
                rw [hg.out i, if_pos hi]
                unfold alk
                rw [← Hh.out]
              have hge : rowg g = rowg (alk l) := by
                simp only [rowg, row5, hge 0 (by decide), hge 1 (by decide), hge 2 (by decide), hge 3 (by decide), hge 4 (by decide)]
              have hacc := hM.acc
              rw [hge] at hacc
              have d0 : wr.cell? ⟨H, 0, none⟩ = some (.int .i64 (alk l 0)) := blk_cell hacc 0
              have d1 : wr.cell? ⟨H, 1, none⟩ = some (.int .i64 (alk l 1)) := blk_cell hacc 1
              have d2 : wr.cell? ⟨H, 2, none⟩ = some (.int .i64 (alk l 2)) := blk_cell hacc 2
              have d3 : wr.cell? ⟨H, 3, none⟩ = some (.int .i64 (alk l 3)) := blk_cell hacc 3
              have d4 : wr.cell? ⟨H, 4, none⟩ = some (.int .i64 (alk l 4)) := blk_cell hacc 4
              have hHlt := blk_lt hacc
              have hbel := Lib.hid hM.below
              have hout := Lib.hid hM.out
              have Hacc := Lib.hid hacc
              have hO1 := Lib.hid (hM.hH)
              have Hg := Lib.hid hg
              clear hM hacc hge hg
              unfold RfPost
              generalize hr0 : alk l = r at *
              have Hr0 := Lib.hid hr0
              clear hr0
              have hst : Hid (RfRel H (wr.heap.size + 2) w (((wr.alloc (.cells (row4 (r 1) (r 2) (r 3) (r 4)) 2)).alloc (.cells (row4 (r 0) (r 1) (r 2) (r 3)) 2)).alloc (.cells (row5 1 0 0 0 0) 54)) r (fun _ => 0) (.slice (some ⟨wr.heap.size, 0, none⟩) 4 4) (.slice (some ⟨wr.heap.size + 1, 0, none⟩) 4 4) [r 1, r 2, r 3, r 4] [r 0, r 1, r 2, r 3]) := by
                refine ⟨blk_alloc (blk_alloc (blk_alloc hout.out _) _) _, blk_alloc (blk_alloc (blk_alloc Hacc.out _) _) _, ?_, ?_, ?_, by omega, ((hbel.out.alloc (by omega) _).alloc (by simp; omega) _).alloc (by simp; omega) _⟩
                · have := heap_alloc_new ((wr.alloc (.cells (row4 (r 1) (r 2) (r 3) (r 4)) 2)).alloc (.cells (row4 (r 0) (r 1) (r 2) (r 3)) 2)) (.cells (row5 1 0 0 0 0) 54)
                  simpa using this
                · exact Kd.R_alloc (Kd.R_alloc (RI_lit wr w.heap.size [r 1, r 2, r 3, r 4] (by omega) (by simp)) _) _
                · have h := RI_lit (wr.alloc (.cells (row4 (r 1) (r 2) (r 3) (r 4)) 2)) w.heap.size [r 0, r 1, r 2, r 3] (by simp; omega) (by simp)
                  have e : (wr.alloc (.cells (row4 (r 1) (r 2) (r 3) (r 4)) 2)).heap.size = wr.heap.size + 1 := by simp
                  rw [e] at h
                  exact Kd.R_alloc h _
              go_wp2
              clear d0 d1 d2 d3 d4 Hacc hout hbel
              generalize wr.heap.size + 2 = F at hst ⊢
              go_loopg [12, 13, 15, 16, 17, 18, 19, 20, 21, 22] 4 (fun gk s12 s13 s15 s16 s17 s18 s19 s20 s21 s22 wr => ∃ m : Nat, m ≤ 4 ∧ gk = 4 - m ∧ s16 = .int .i64 m ∧ ∃ (ul vl : List Int) (f : Nat → Int) (e : Bool), s15 = .bool e ∧ Hid (rfS r m = ⟨ul, vl, f, e⟩) ∧ Hid (ul.length + m = 4 ∧ ul.length ≤ vl.length ∧ 1 ≤ vl.length ∧ vl.length ≤ 4) ∧ RfRel H F w wr r f s12 s13 ul vl)
              case atStart => exact ⟨0, by omega, rfl, rfl, _, _, _, _, rfl, rfl, (by show _ ∧ _; simp), hst.out⟩
              case round =>
                clear hst
                obtain ⟨m, hm, rfl, rfl, ul, vl, f, e, rfl, hS, hlen, hM⟩ := hrel
                by_cases hm4 : m < 4
                · have hm4' : (m : Int) < 4 := by omega
                  obtain ⟨Au, cu, rfl, hcu, -⟩ := Kd.R_reads hM.ru
                  obtain ⟨Av, cv, rfl, hcv, -⟩ := Kd.R_reads hM.rv
                  obtain ⟨gu, rfl, -, u0, -, -⟩ := R_at hM.ru 0 (by have := hlen.out; omega)
                  obtain ⟨gv, rfl, -, v0, -, -⟩ := R_at hM.rv 0 (by have := hlen.out; omega)
                  have hlu : (0 : Int) < (ul.length : Int) := by have := hlen.out; omega
                  have hlv : (0 : Int) < (vl.length : Int) := by have := hlen.out; omega
                  have hM' := Lib.hid hM
                  clear hM
                  go_upto_if 118 with fail
                  go_cut [17] (fun s17 wx => s17 = .int .i64 (fdK ul vl) ∧ RfRel H F w wx r f (.slice (some ⟨gu, 0, none⟩) ul.length cu) (.slice (some ⟨gv, 0, none⟩) vl.length cv) ul vl)
                  case first =>
                    by_cases hv : rd vl 0 > 0
                    · have hk : Hid (fdK ul vl = clamp (wrap64 (Int.tdiv (wrap64 (wrap64 (-rd ul 0) * 32768)) (rd vl 0))) (-32767) 32767) := by show _ = _; unfold fdK; rw [if_pos hv]
                      generalize rd vl (0 : Int) = y at *
                      generalize rd ul (0 : Int) = x at *
                      go_wp2_with fail
                      go_quiet (fail)
                      go_wp2
                      rw [clamp_mm]
                      go_meet
                      exact ⟨by rw [hk.out], hM'.out.drew _⟩
                    · have hk : Hid (fdK ul vl = 0) := by show _ = _; unfold fdK; rw [if_neg hv]
                      generalize rd vl (0 : Int) = y at *
                      go_wp2
                      go_meet
                      exact ⟨by rw [hk.out], hM'.out⟩
                  case rest =>
                    obtain ⟨rfl, hM2⟩ := hcut
                    clear hM' v0 u0
                    have hkb := fdK_bd ul vl
                    generalize hke : fdK ul vl = k at hkb ⊢
                    have Hke := Lib.hid hke
                    clear hke
                    have hm0' : (0 : Int) ≤ (m : Int) := by omega
                    have hm5 : (m : Int) + 1 ≤ 4 := by omega
                    have hM2' := Lib.hid hM2
                    clear hM2
                    go_wp2
                    go_loopg [18, 19] 16 (fun gk s18 s19 wr => ∃ (i : Nat) (b : Int), 1 ≤ i ∧ i ≤ 17 ∧ gk = 17 - i ∧ s19 = .int .i64 i ∧ s18 = .int .i64 b ∧ Hid (b = nearN k i) ∧ RfRel H F w wr r f (.slice (some ⟨gu, 0, none⟩) ul.length cu) (.slice (some ⟨gv, 0, none⟩) vl.length cv) ul vl)
                    case atStart => exact ⟨1, 0, by omega, by omega, rfl, rfl, rfl, (by show _ = _; simp [nearN]), hM2'.out⟩
                    case round =>
                      clear hM2'
                      obtain ⟨i, b, hi1, hi2, rfl, rfl, rfl, hb, hM⟩ := hrel
                      replace hM := Lib.hid hM
                      by_cases hlt : i < 17
                      · have hbb := nearN_bd k i
                        rw [← hb.out] at hbb
                        have hi0 : (0 : Int) ≤ (i : Int) := by omega
                        have hi16 : (i : Int) ≤ 16 := by omega
                        have hi17 : (i : Int) < 17 := by omega
                        have hb0 : 0 ≤ b := hbb.1
                        have hb16 : b ≤ 16 := by omega
                        clear hbb
                        go_wp2_with fail
                        refine (rpart_any i _ hi0 hi16).mono ?_
                        rintro e1 w2 ⟨rfl, n1, rfl⟩
                        go_wp2_with fail
                        refine (rapart_any k i _ hkb).mono ?_
                        rintro e1 w2 ⟨rfl, n2, rfl⟩
                        go_wp2_with fail
                        refine (rpart_any b _ hb0 hb16).mono ?_
                        rintro e1 w2 ⟨rfl, n3, rfl⟩
                        go_wp2_with fail
                        refine (rapart_any k b _ hkb).mono ?_
                        rintro e1 w2 ⟨rfl, n4, rfl⟩
                        by_cases hf : far k i < far k b
                        · have hq : Hid (nearN k (i + 1) = i) := by
                            show (if far k i < far k (nearN k i) then (i : Int) else nearN k i) = i
                            rw [← hb.out, if_pos hf]
                          go_wp2
                          go_roundg (17 - (i + 1))
                          case measure => omega
                          case rel => exact ⟨i + 1, _, by omega, hlt, rfl, by push_cast; rfl, rfl, hq.out.symm, hM.out.drew _⟩
                        · have hq : Hid (nearN k (i + 1) = b) := by
                            show (if far k i < far k (nearN k i) then (i : Int) else nearN k i) = _
                            rw [← hb.out, if_neg hf]
                          go_wp2
                          go_roundg (17 - (i + 1))
                          case measure => omega
                          case rel => exact ⟨i + 1, _, by omega, hlt, rfl, by push_cast; rfl, rfl, hq.out.symm, hM.out.drew _⟩
                      · obtain rfl : i = 17 := by omega
                        have f0 : wr.cell? ⟨F, 1 + m, none⟩ = some (.int .i64 (f m)) := by
                          have := blk_cell hM.out.fil (1 + m)
                          rw [this]
                          obtain rfl | rfl | rfl | rfl : m = 0 ∨ m = 1 ∨ m = 2 ∨ m = 3 := by omega
                          all_goals rfl
                        have g0 := blk_frozen hM.out.fil (1 + m)
                        have hM3 := Lib.hid (hM.out.putF m b hm4)
                        have he : Hid ((e && decide (b = 8)) = (e && decide (b = 8))) := rfl
                        generalize hee : (e && decide (b = 8)) = e' at he
                        have Hee := Lib.hid hee
                        clear hee he hM
                        go_upto_region 42 with fail
                        go_cut [15] (fun s15 wx => s15 = .bool e' ∧ RfRel H F w wx r (upg f m b) (.slice (some ⟨gu, 0, none⟩) ul.length cu) (.slice (some ⟨gv, 0, none⟩) vl.length cv) ul vl)
                        case first =>
                          cases e
                          · go_wp2
                            go_meet
                            exact ⟨by rw [← Hee.out, Bool.false_and], hM3.out⟩
                          · by_cases hb8 : b = 8
                            · have hd : Hid (e' = true) := by show _ = _; rw [← Hee.out]; simp [hb8]
                              have hb9 : (b == 8) = true := by simpa using hb8
                              clear hb8
                              go_wp2
                              go_meet
                              exact ⟨by rw [hd.out], hM3.out⟩
                            · have hd : Hid (e' = false) := by show _ = _; rw [← Hee.out]; simp [hb8]
                              have hb9 : (b == 8) = false := by simpa using hb8
                              go_wp2
                              go_meet
                              exact ⟨by rw [hd.out], hM3.out⟩
                        case rest =>
                          obtain ⟨rfl, hM4⟩ := hcut
                          replace hM4 := Lib.hid hM4
                          clear hM3 f0 g0
                          go_wp2
                          have hst2 := Lib.hid (RgRel.start hM4.out)
                          have hlen' := hlen.out
                          clear hM4
                          go_loopg [20, 21, 22] ul.length (fun gk s20 s21 s22 wr => ∃ j : Nat, j ≤ ul.length ∧ gk = ul.length - j ∧ s22 = .int .i64 j ∧ RgRel H F w wr r (upg f m b) (.slice (some ⟨gu, 0, none⟩) ul.length cu) (.slice (some ⟨gv, 0, none⟩) vl.length cv) ul vl s20 ((pL k ul vl).take j) s21 ((qL k ul vl).take j))
                          case atStart => exact ⟨0, by omega, rfl, rfl, hst2.out⟩
                          case round =>
                            clear hst2
                            obtain ⟨j, hj, rfl, rfl, hM⟩ := hrel
                            replace hM := Lib.hid hM
                            by_cases hjn : j < ul.length
                            · have hjn' : (j : Int) < (ul.length : Int) := by omega
                              have hj0' : (0 : Int) ≤ (j : Int) := by omega
                              have hjv : (j : Int) < (vl.length : Int) := by omega
                              go_upto_if 164 with fail
                              go_cut [20] (fun s20 wx => RgRel H F w wx r (upg f m b) (.slice (some ⟨gu, 0, none⟩) ul.length cu) (.slice (some ⟨gv, 0, none⟩) vl.length cv) ul vl s20 ((pL k ul vl).take (j + 1)) u21 ((qL k ul vl).take j))
                              case first =>
                                by_cases hlast : j + 1 < ul.length
                                · have hl1 : (j : Int) + 1 < (ul.length : Int) := by omega
                                  have hl2 : (j : Int) + 1 < (vl.length : Int) := by omega
                                  obtain ⟨gx, e1, -, cu1, -, ltu⟩ := R_at hM.out.rf.ru (j + 1) (by omega)
                                  obtain rfl : gu = gx := by injection e1 with e1; injection e1 with e1
                                  obtain ⟨gx, e2, -, cv1, -, ltv⟩ := R_at hM.out.rf.rv (j + 1) (by omega)
                                  obtain rfl : gv = gx := by injection e2 with e2; injection e2 with e2
                                  clear e1 e2
                                  have hpl := pL_step k ul vl j hlast
                                  generalize rd ul ((j + 1 : Nat) : Int) = x1 at cu1 hpl
                                  generalize rd vl ((j + 1 : Nat) : Int) = y1 at cv1 hpl
                                  have Hpl := Lib.hid hpl
                                  clear hpl
                                  have hw1 : IntKind.i64.wrap ((j : Int) + 1) = (j : Int) + 1 := IntWalk.i64_in _ (by omega)
                                  have ht1 : ((j : Int) + 1).toNat = j + 1 := by omega
                                  have hj1' : (0 : Int) ≤ (j : Int) + 1 := by omega
                                  go_wp2_with fail
                                  go_region_held3 (fun w' => w'.cell? ⟨gu, j + 1, none⟩ = some (.int .i64 x1) ∧ w'.cell? ⟨gv, j + 1, none⟩ = some (.int .i64 y1))
                                    (first | exact hHeld | exact ⟨cu1, cv1⟩ | exact ⟨(World.cell?_alloc_lt _ _ _ (by exact ltu)).trans cu1, (World.cell?_alloc_lt _ _ _ (by exact ltv)).trans cv1⟩ | exact ⟨(hg.cell_far ⟨gu, j + 1, none⟩ (by exact ltu) (ne_row hM.out.pu gu rfl)).trans (by exact cu1), (hg.cell_far ⟨gv, j + 1, none⟩ (by exact ltv) (ne_row hM.out.pv gv rfl)).trans (by exact cv1)⟩)
                                    ((first
                                      | (go_at_call 52; refine (rnd_any _ _ _ (i64_bd _)).mono ?_; rintro e4 w4 ⟨rfl, rfl⟩)
                                      | (refine Kd.R_append_step (Kd.int .i64) (w0 := w) w.heap.size (by rfl) (.tmp 165) (.tmp 180) 37 2 (.int .i64 0) 8 (by rfl) Try.underlying37 rf64_info (by rfl) (by decide) (by decide) u20 ((pL k ul vl).take j) (IntKind.i64.wrap (x1 + rnd (IntKind.i64.wrap (k * y1)) 15)) [.int .i64 (IntKind.i64.wrap (x1 + rnd (IntKind.i64.wrap (k * y1)) 15))] (fun _ => True) (fun _ => False) (by rfl) (by rfl) (by rfl) (fun _ hk => hk.elim) (fun _ _ => trivial) (Kd.R_drewN hM.out.rp 1) (pw_below_drewN hM.out.rf.below 1) (by have := blk_lt hM.out.rf.out; simp; omega) (by simp; omega) ?_; intro v1 w4 hR hB hg hat)))
                                  have hM5 := Lib.hid ((hM.out.drew 1).pushP hg hR hat hB)
                                  simp only [IntWalk.i64_left] at hM5
                                  rw [← Hpl.out] at hM5
                                  clear hg hR hat hB cu1 cv1
                                  go_wp2
                                  go_meet
                                  exact hM5.out
                                · have hl1 : ¬ (j : Int) + 1 < (ul.length : Int) := by omega
                                  have hM5 := hM
                                  rw [← pL_last k ul vl j hlast] at hM5
                                  go_wp2
                                  go_meet
                                  exact hM5.out
                              case rest =>
                                clear hM
                                have hM := Lib.hid hcut
                                clear hcut
                                obtain ⟨gx, e1, -, cu1, -, ltu⟩ := R_at hM.out.rf.ru j (by omega)
                                obtain rfl : gu = gx := by injection e1 with e1; injection e1 with e1
                                obtain ⟨gx, e2, -, cv1, -, ltv⟩ := R_at hM.out.rf.rv j (by omega)
                                obtain rfl : gv = gx := by injection e2 with e2; injection e2 with e2
                                clear e1 e2
                                have hql := qL_step k ul vl j hjn
                                generalize rd ul (j : Int) = x1 at cu1 hql
                                generalize rd vl (j : Int) = y1 at cv1 hql
                                have Hql := Lib.hid hql
                                clear hql
                                go_wp2_with fail
                                go_region_held3 (fun w' => w'.cell? ⟨gu, j, none⟩ = some (.int .i64 x1) ∧ w'.cell? ⟨gv, j, none⟩ = some (.int .i64 y1))
                                  (first | exact hHeld | exact ⟨cu1, cv1⟩ | exact ⟨(World.cell?_alloc_lt _ _ _ (by exact ltu)).trans cu1, (World.cell?_alloc_lt _ _ _ (by exact ltv)).trans cv1⟩ | exact ⟨(hg.cell_far ⟨gu, j, none⟩ (by exact ltu) (ne_row hM.out.qu gu rfl)).trans (by exact cu1), (hg.cell_far ⟨gv, j, none⟩ (by exact ltv) (ne_row hM.out.qv gv rfl)).trans (by exact cv1)⟩)
                                  ((first
                                    | (go_at_call 52; refine (rnd_any _ _ _ (i64_bd _)).mono ?_; rintro e4 w4 ⟨rfl, rfl⟩)
                                    | (refine Kd.R_append_step (Kd.int .i64) (w0 := w) w.heap.size (by rfl) (.tmp 182) (.tmp 195) 37 2 (.int .i64 0) 8 (by rfl) Try.underlying37 rf64_info (by rfl) (by decide) (by decide) u21 ((qL k ul vl).take j) (IntKind.i64.wrap (y1 + rnd (IntKind.i64.wrap (k * x1)) 15)) [.int .i64 (IntKind.i64.wrap (y1 + rnd (IntKind.i64.wrap (k * x1)) 15))] (fun _ => True) (fun _ => False) (by rfl) (by rfl) (by rfl) (fun _ hk => hk.elim) (fun _ _ => trivial) (Kd.R_drewN hM.out.rq 1) (pw_below_drewN hM.out.rf.below 1) (by have := blk_lt hM.out.rf.out; simp; omega) (by simp; omega) ?_; intro v1 w4 hR hB hg hat)))
                                have hM5 := Lib.hid ((hM.out.drew 1).pushQ hg hR hat hB)
                                simp only [IntWalk.i64_left] at hM5
                                rw [← Hql.out] at hM5
                                clear hg hR hat hB cu1 cv1
                                go_wp2
                                go_roundg (ul.length - (j + 1))
                                case measure => omega
                                case rel => exact ⟨j + 1, by omega, rfl, by push_cast; rfl, hM5.out⟩
                            · obtain rfl : j = ul.length := by omega
                              have hkl9 : ¬ (ul.length : Int) < (ul.length : Int) := by omega
                              have hp9 : (pL k ul vl).take ul.length = pL k ul vl := List.take_of_length_le (by unfold pL; simp)
                              have hq9 : (qL k ul vl).take ul.length = qL k ul vl := List.take_of_length_le (by unfold qL; simp)
                              have hM' := hM.out
                              rw [hp9, hq9] at hM'
                              have hS2 : Hid (rfS r (m + 1) = ⟨pL k ul vl, qL k ul vl, upg f m b, e'⟩) := by
                                show _ = _
                                have e1 : (rfS r m).u = ul := by rw [hS.out]
                                have e2 : (rfS r m).v = vl := by rw [hS.out]
                                have e3 : (rfS r m).f = f := by rw [hS.out]
                                have e4 : (rfS r m).e = e := by rw [hS.out]
                                unfold rfS
                                rw [e1, e2, e3, e4, Hke.out, ← hb.out, Hee.out]
                              have hlen2 : Hid ((pL k ul vl).length + (m + 1) = 4 ∧ (pL k ul vl).length ≤ (qL k ul vl).length ∧ 1 ≤ (qL k ul vl).length ∧ (qL k ul vl).length ≤ 4) := by
                                show _ ∧ _
                                unfold pL qL
                                simp only [List.length_map, List.length_range]
                                omega
                              have hN := Lib.hid (show RfRel H F w wr r (upg f m b) u20 u21 (pL k ul vl) (qL k ul vl) from ⟨hM'.rf.out, hM'.rf.arr, hM'.rf.fil, hM'.rp, hM'.rq, hM'.rf.hF, hM'.rf.below⟩)
                              clear hM' hM hp9 hq9
                              go_wp2
                              go_roundg (4 - (m + 1))
                              case measure => omega
                              case rel => exact ⟨m + 1, by omega, rfl, by push_cast; rfl, _, _, _, _, rfl, hS2, hlen2, hN.out⟩
                · obtain rfl : m = 4 := by omega
                  have hN := Lib.hid hM
                  obtain ⟨Av, cv, rfl, hcv, -⟩ := Kd.R_reads hM.rv
                  obtain ⟨gv, rfl, -, v0, -, -⟩ := R_at hM.rv 0 (by have := hlen.out; omega)
                  have hlv : (0 : Int) < (vl.length : Int) := by have := hlen.out; omega
                  have r0 : wr.cell? ⟨H, 0, none⟩ = some (.int .i64 (r 0)) := blk_cell hM.arr 0
                  have f0 : wr.cell? ⟨F, 0, none⟩ = some (.int .i64 1) := blk_cell hM.fil 0
                  have f1 : wr.cell? ⟨F, 1, none⟩ = some (.int .i64 (f 0)) := blk_cell hM.fil 1
                  have f2 : wr.cell? ⟨F, 2, none⟩ = some (.int .i64 (f 1)) := blk_cell hM.fil 2
                  have f3 : wr.cell? ⟨F, 3, none⟩ = some (.int .i64 (f 2)) := blk_cell hM.fil 3
                  have f4 : wr.cell? ⟨F, 4, none⟩ = some (.int .i64 (f 3)) := blk_cell hM.fil 4
                  have o0 : wr.cell? ⟨w.heap.size, 0, none⟩ = some (.int .i64 0) := blk_cell hM.out 0
                  have o1 : wr.cell? ⟨w.heap.size, 1, none⟩ = some (.int .i64 0) := blk_cell hM.out 1
                  have o2 : wr.cell? ⟨w.heap.size, 2, none⟩ = some (.int .i64 0) := blk_cell hM.out 2
                  have o3 : wr.cell? ⟨w.heap.size, 3, none⟩ = some (.int .i64 0) := blk_cell hM.out 3
                  have o4 : wr.cell? ⟨w.heap.size, 4, none⟩ = some (.int .i64 0) := blk_cell hM.out 4
                  have of := blk_frozen hM.out
                  clear hM
                  have hlast : Hid (rfV r = rfVal r ⟨ul, vl, f, e⟩) := by
                    show _ = _
                    unfold rfV
                    rw [hS.out]
                  clear hS
                  unfold rfVal at hlast
                  dsimp only at hlast
                  by_cases c1 : r 0 ≤ 0
                  · rw [if_pos (.inl c1)] at hlast
                    have d1 : decide (r 0 ≤ 0) = true := by simpa using c1
                    go_wp2_with fail
                    go_quiet (fail)
                    go_wp2
                    refine bodyPost_ret (v := fval 0 0 0 0 0) (results_single (r := .cell 2 54) rfl (.cell w.heap.size 54 _ (0, 0) _ rfl (five_put (blk_drewN hN.out.out nq) _ _ _ _ _) Try.underlying54 rfl (by kernel_rfl) .nil)) rfl ⟨by rw [Hr0.out, hlast.out], five_below (hN.out.drew nq).below (Nat.le_refl _) _ _ _ _ _⟩
                  · have d1 : decide (r 0 ≤ 0) = false := by simpa using c1
                    by_cases c2 : wrap64 (2 * r 0) < wrap64 (3 * rd vl 0)
                    · rw [if_pos (.inr (.inl c2))] at hlast
                      have d2 : decide (wrap64 (2 * r 0) < wrap64 (3 * rd vl 0)) = true := by simpa using c2
                      go_wp2_with fail
                      go_quiet (fail)
                      go_wp2
                      refine bodyPost_ret (v := fval 0 0 0 0 0) (results_single (r := .cell 2 54) rfl (.cell w.heap.size 54 _ (0, 0) _ rfl (five_put (blk_drewN hN.out.out nq) _ _ _ _ _) Try.underlying54 rfl (by kernel_rfl) .nil)) rfl ⟨by rw [Hr0.out, hlast.out], five_below (hN.out.drew nq).below (Nat.le_refl _) _ _ _ _ _⟩
                    · have d2 : decide (wrap64 (2 * r 0) < wrap64 (3 * rd vl 0)) = false := by simpa using c2
                      cases e with
                      | true =>
                        rw [if_pos (.inr (.inr rfl))] at hlast
                        go_wp2_with fail
                        go_quiet (fail)
                        go_wp2
                        refine bodyPost_ret (v := fval 0 0 0 0 0) (results_single (r := .cell 2 54) rfl (.cell w.heap.size 54 _ (0, 0) _ rfl (five_put (blk_drewN hN.out.out nq) _ _ _ _ _) Try.underlying54 rfl (by kernel_rfl) .nil)) rfl ⟨by rw [Hr0.out, hlast.out], five_below (hN.out.drew nq).below (Nat.le_refl _) _ _ _ _ _⟩
                      | false =>
                        rw [if_neg (by rintro (h | h | h) <;> first | contradiction | cases h)] at hlast
                        go_wp2_with fail
                        go_quiet (fail)
                        go_wp2
                        refine bodyPost_ret (v := fval 1 (f 0) (f 1) (f 2) (f 3)) (results_single (r := .cell 2 54) rfl (.cell w.heap.size 54 _ (0, 0) _ rfl (five_put (blk_drewN hN.out.out nq) _ _ _ _ _) Try.underlying54 rfl (by kernel_rfl) .nil)) rfl ⟨by rw [Hr0.out, hlast.out], five_below (hN.out.drew nq).below (Nat.le_refl _) _ _ _ _ _⟩
end Go.Proofs.YtojlgjdebokelabH

namespace Go.Proofs.YtojlgjdebokelabH
open Go.RowKit Go.Proofs.YtojlgjdebokelabW.PrintWords
theorem rd_seti (l : List Int) (j : Nat) (x : Int) (i : Nat) (hj : j < l.length) : rd (l.set j x) (i : Int) = if i = j then x else rd l (i : Int) := by
  unfold rd
  rw [Int.toNat_natCast, List.getD_eq_getElem?_getD, List.getD_eq_getElem?_getD, List.getElem?_set]
  by_cases h : j = i
  · subst h; simp [hj]
  · rw [if_neg h, if_neg (fun e => h e.symm)]
theorem inU_spec (k : Int) (n : Nat) (lu lv : List Int) (hu : lu.length = 4) (hv : lv.length = 4) : ∀ j : Nat, j ≤ 4 →
    (inU k n lu lv j).1.length = 4 ∧ (inU k n lu lv j).2.length = 4 ∧
    (∀ i : Nat, rd (inU k n lu lv j).1 (i : Int) = if i < j ∧ i + 1 < n then wrap64 (rd lu ((i + 1 : Nat) : Int) + rnd (wrap64 (k * rd lv ((i + 1 : Nat) : Int))) 15) else rd lu (i : Int)) ∧
    (∀ i : Nat, rd (inU k n lu lv j).2 (i : Int) = if i < j then wrap64 (rd lv (i : Int) + rnd (wrap64 (k * rd lu (i : Int))) 15) else rd lv (i : Int))
  | 0, _ => ⟨hu, hv, fun i => by simp [inU], fun i => by simp [inU]⟩
  | j + 1, h => by
    obtain ⟨h1, h2, h3, h4⟩ := inU_spec k n lu lv hu hv j (by omega)
    have a1 := h3 (j + 1)
    rw [if_neg (by omega)] at a1
    have a2 := h4 (j + 1)
    rw [if_neg (by omega)] at a2
    have a3 := h3 j
    rw [if_neg (by omega)] at a3
    have a4 := h4 j
    rw [if_neg (by omega)] at a4
    refine ⟨?_, ?_, fun i => ?_, fun i => ?_⟩
    · simp only [inU]; split <;> simp [h1]
    · simp only [inU, List.length_set, h2]
    · simp only [inU]
      by_cases hn : j + 1 < n
      · rw [if_pos hn, rd_seti _ _ _ _ (by omega), a1, a2, h3 i]
        by_cases hi : i = j
        · subst hi; rw [if_pos rfl, if_pos ⟨by omega, hn⟩]
        · rw [if_neg hi]
          by_cases hc : i < j ∧ i + 1 < n
          · rw [if_pos hc, if_pos ⟨by omega, hc.2⟩]
          · rw [if_neg hc, if_neg (by omega)]
      · rw [if_neg hn, h3 i]
        by_cases hc : i < j ∧ i + 1 < n
        · rw [if_pos hc, if_pos ⟨by omega, hc.2⟩]
        · rw [if_neg hc, if_neg (by omega)]
    · simp only [inU]
      rw [rd_seti _ _ _ _ (by omega), a3, a4, h4 i]
      by_cases hi : i = j
      · subst hi; rw [if_pos rfl, if_pos (by omega)]
      · rw [if_neg hi]
        by_cases hc : i < j
        · rw [if_pos hc, if_pos (by omega)]
        · rw [if_neg hc, if_neg (by omega)]
theorem rd_mapr (n : Nat) (g : Nat → Int) (i : Nat) (h : i < n) : rd ((List.range n).map g) (i : Int) = g i := by
  unfold rd
  rw [Int.toNat_natCast, List.getD_eq_getElem?_getD]
  simp [h]
theorem rf_fd (r : Nat → Int) : ∀ m : Nat, m ≤ 4 →
    (rfS r m).u.length = 4 - m ∧ (fdS r m).u.length = 4 ∧ (fdS r m).v.length = 4 ∧ (∀ i : Nat, i < 4 - m → rd (rfS r m).u (i : Int) = rd (fdS r m).u (i : Int)) ∧
    (∀ i : Nat, i < max 1 (4 - m) → rd (rfS r m).v (i : Int) = rd (fdS r m).v (i : Int)) ∧ (rfS r m).f = (fdS r m).f ∧ (rfS r m).e = decide (∀ i, i < m → (fdS r m).f i = 8)
  | 0, _ => ⟨rfl, rfl, rfl, fun i _ => rfl, fun i _ => rfl, rfl, by simp [rfS]⟩
  | m + 1, h => by
    obtain ⟨h1, h2, h3, h4, h5, h6, h7⟩ := rf_fd r m (by omega)
    have u0 := h4 0 (by omega)
    have v0 := h5 0 (by omega)
    have hk : fdK (rfS r m).u (rfS r m).v = fdK (fdS r m).u (fdS r m).v := by
      unfold fdK
      rw [show rd (rfS r m).u 0 = rd (fdS r m).u 0 from u0, show rd (rfS r m).v 0 = rd (fdS r m).v 0 from v0]
    have hS1 : (rfS r (m + 1)).u = pL (fdK (fdS r m).u (fdS r m).v) (rfS r m).u (rfS r m).v := by rw [← hk]; rfl
    have hS2 : (rfS r (m + 1)).v = qL (fdK (fdS r m).u (fdS r m).v) (rfS r m).u (rfS r m).v := by rw [← hk]; rfl
    have hS3 : (rfS r (m + 1)).f = upg (rfS r m).f m (nearN (fdK (fdS r m).u (fdS r m).v) 17) := by rw [← hk]; rfl
    have hS4 : (rfS r (m + 1)).e = ((rfS r m).e && decide (nearN (fdK (fdS r m).u (fdS r m).v) 17 = 8)) := by rw [← hk]; rfl
    have hF1 : (fdS r (m + 1)).u = (inU (fdK (fdS r m).u (fdS r m).v) (4 - m) (fdS r m).u (fdS r m).v (4 - m)).1 := rfl
    have hF2 : (fdS r (m + 1)).v = (inU (fdK (fdS r m).u (fdS r m).v) (4 - m) (fdS r m).u (fdS r m).v (4 - m)).2 := rfl
    have hF3 : (fdS r (m + 1)).f = upg (fdS r m).f m (nearN (fdK (fdS r m).u (fdS r m).v) 17) := rfl
    generalize fdK (fdS r m).u (fdS r m).v = k at *
    obtain ⟨a1, a2, a3, a4⟩ := inU_spec k (4 - m) (fdS r m).u (fdS r m).v h2 h3 (4 - m) (by omega)
    refine ⟨?_, by rw [hF1]; exact a1, by rw [hF2]; exact a2, fun i hi => ?_, fun i hi => ?_, by rw [hS3, hF3, h6], ?_⟩
    · rw [hS1]; unfold pL; simp only [List.length_map, List.length_range]; omega
    · rw [hS1, hF1, a3 i, if_pos ⟨by omega, by omega⟩]
      unfold pL
      rw [rd_mapr _ _ i (by omega), h4 (i + 1) (by omega), h5 (i + 1) (by omega)]
    · rw [hS2, hF2, a4 i, if_pos (by omega)]
      unfold qL
      rw [rd_mapr _ _ i (by omega), h4 i (by omega), h5 i (by omega)]
    · rw [hS4, h7, hF3]
      generalize nearN k 17 = b
      rw [← Bool.decide_and, decide_eq_decide]
      constructor
      · rintro ⟨p, q⟩ i hi
        unfold upg
        by_cases e : i = m
        · rw [if_pos e]; exact q
        · rw [if_neg e]; exact p i (by omega)
      · intro p
        refine ⟨fun i hi => ?_, ?_⟩
        · have := p i (by omega)
          unfold upg at this
          rwa [if_neg (by omega)] at this
        · have := p m (by omega)
          unfold upg at this
          rwa [if_pos rfl] at this
theorem all4 (f : Nat → Int) : (∀ i, i < 4 → f i = 8) ↔ eight4 f := by
  unfold eight4
  constructor
  · intro p
    exact ⟨p 0 (by decide), p 1 (by decide), p 2 (by decide), p 3 (by decide)⟩
  · rintro ⟨p0, p1, p2, p3⟩ i hi
    have : i = 0 ∨ i = 1 ∨ i = 2 ∨ i = 3 := by omega
    rcases this with h | h | h | h <;> rw [h] <;> assumption
theorem rfV_eq (r : Nat → Int) : rfV r = fdV r := by
  obtain ⟨h1, h2, h3, h4, h5, h6, h7⟩ := rf_fd r 4 (by decide)
  have v0 : rd (rfS r 4).v 0 = rd (fdS r 4).v 0 := h5 0 (by decide)
  unfold rfV fdV rfVal fdVal
  rw [v0, h6]
  have e : (rfS r 4).e = true ↔ eight4 (fdS r 4).f := by
    rw [h7, decide_eq_true_iff]
    exact all4 _
  by_cases c : r 0 ≤ 0 ∨ wrap64 (2 * r 0) < wrap64 (3 * rd (fdS r 4).v 0) ∨ eight4 (fdS r 4).f
  · rw [if_pos c, if_pos (by rcases c with c | c | c; exact .inl c; exact .inr (.inl c); exact .inr (.inr (e.2 c)))]
  · rw [if_neg c, if_neg (by rintro (h | h | h); exact c (.inl h); exact c (.inr (.inl h)); exact c (.inr (.inr (e.1 h))))]
end Go.Proofs.YtojlgjdebokelabH

namespace Go.Proofs.YtojlgjdebokelabH
open Go.RowKit Go.Proofs.YtojlgjdebokelabW.PrintWords Go.Proofs.YtojlgjdebokelabW.PrintMore Go.Proofs.YtojlgjdebokelabW
set_option maxRecDepth 100000 in
theorem find_long (A : Option Addr) (c n : Nat) (w : World) (hl : 120 < n) :
    Calls Try.prog 21 #[.slice A n c] w fun e w' => e = .returned (.tuple #[fval 0 0 0 0 0, .int .i64 2]) ∧ Below w.heap.size w w' := by
  have h120 : (120 : Int) < (n : Int) := by omega
  go_enter Try.func21, Try.ntmps21
  go_wp2
  refine bodyPost_ret (v := .tuple #[fval 0 0 0 0 0, .int .i64 2]) (results_list (rs := [.cell 2 51, .tmp 3]) rfl (by simp) (.cell w.heap.size 51 _ (0, 0) _ rfl (heap_alloc_new w _) Try.underlying51 rfl (by kernel_rfl) (.tmp .nil))) rfl ⟨rfl, (Below.refl _ _).alloc (Nat.le_refl _) _⟩
open Go.Proofs.Ytojlgjdebokelab.PLib5
theorem same32_l0 (l : List Int) (hl : l.length ≤ 140737488351232) (d : Nat) : ∀ (k : Nat) (i : Int), 0 ≤ i → i ≤ l.length → (l.length : Int) - i = d → d < k → psalteryref08_Same32.l0 k l l i = some true := by
  induction d with
  | zero =>
    intro k i h0 h1 hd hk
    obtain ⟨k, rfl⟩ : ∃ m, k = m + 1 := ⟨k - 1, by omega⟩
    simp only [psalteryref08_Same32.l0]; rw [if_neg (by omega)]
  | succ d ih =>
    intro k i h0 h1 hd hk
    obtain ⟨k, rfl⟩ : ∃ m, k = m + 1 := ⟨k - 1, by omega⟩
    simp only [psalteryref08_Same32.l0]
    rw [if_pos (by omega), if_pos h0, if_pos (by omega), if_true, show wrap64 (i + 1) = i + 1 by unfold wrap64; omega]
    exact ih k (i + 1) (by omega) (by omega) (by omega) (by omega)
theorem same32_any (A0 A1 : Option Addr) (c0 c1 : Nat) (l : List Int) (w : World) (h0 : Kd.C (Kd.int .i32) w A0 l.length l) (hc0 : l.length ≤ c0) (h1 : Kd.C (Kd.int .i32) w A1 l.length l) (hc1 : l.length ≤ c1) (hl : l.length ≤ 140737488351232) :
    Calls Try.prog 12 #[.slice A0 l.length c0, .slice A1 l.length c1] w fun e w' => e = .returned (.bool true) ∧ ∃ n, w' = w.drewN n :=
  (psalteryref08_Same32.calls (l.length + 1) A0 c0 l A1 c1 l true w h0 hc0 h1 hc1 (by unfold psalteryref08_Same32.f; rw [if_pos rfl]; exact same32_l0 l hl l.length _ 0 (by omega) (by omega) (by omega) (by omega))).mono fun _ _ h => ⟨h.1, h.2.out⟩
theorem same16_l0 (l : List Int) (hl : l.length ≤ 140737488351232) (d : Nat) : ∀ (k : Nat) (i : Int), 0 ≤ i → i ≤ l.length → (l.length : Int) - i = d → d < k → psalteryref04_Same.l0 k l l i = some true := by
  induction d with
  | zero =>
    intro k i h0 h1 hd hk
    obtain ⟨k, rfl⟩ : ∃ m, k = m + 1 := ⟨k - 1, by omega⟩
    simp only [psalteryref04_Same.l0]; rw [if_neg (by omega)]
  | succ d ih =>
    intro k i h0 h1 hd hk
    obtain ⟨k, rfl⟩ : ∃ m, k = m + 1 := ⟨k - 1, by omega⟩
    simp only [psalteryref04_Same.l0]
    rw [if_pos (by omega), if_pos h0, if_pos (by omega), if_true, show wrap64 (i + 1) = i + 1 by unfold wrap64; omega]
    exact ih k (i + 1) (by omega) (by omega) (by omega) (by omega)
theorem same16_any (A0 A1 : Option Addr) (c0 c1 : Nat) (l : List Int) (w : World) (h0 : Kd.C (Kd.int .i16) w A0 l.length l) (hc0 : l.length ≤ c0) (h1 : Kd.C (Kd.int .i16) w A1 l.length l) (hc1 : l.length ≤ c1) (hl : l.length ≤ 140737488351232) :
    Calls Try.prog 18 #[.slice A0 l.length c0, .slice A1 l.length c1] w fun e w' => e = .returned (.bool true) ∧ ∃ n, w' = w.drewN n :=
  (psalteryref04_Same.calls (l.length + 1) A0 c0 l A1 c1 l true w h0 hc0 h1 hc1 (by unfold psalteryref04_Same.f; rw [if_pos rfl]; exact same16_l0 l hl l.length _ 0 (by omega) (by omega) (by omega) (by omega))).mono fun _ _ h => ⟨h.1, h.2.out⟩
theorem fd_zeros : fdV (alk (List.replicate 40 0)) = fval 0 0 0 0 0 := by
  have h : alk (List.replicate 40 0) 0 = 0 := by decide +kernel
  unfold fdV fdVal
  rw [if_pos (.inl (by rw [h]; exact Int.le_refl 0))]
theorem run_eights : thrv runL [5, -7, 900] 1 8 8 8 8 = ([5, -7, 900], 0) := by decide +kernel
theorem run_bad : thrv runL [5, -7, 900] 2 0 0 0 0 = ([], 1) := by decide +kernel
end Go.Proofs.YtojlgjdebokelabH

namespace Go.Proofs.YtojlgjdebokelabH
open Go.RowKit Go.Proofs.YtojlgjdebokelabW.PrintWords Go.Proofs.YtojlgjdebokelabW.PrintMore Go.Proofs.YtojlgjdebokelabW
theorem I32_lit (l : List Int) (h : l.all (fun x => decide (-2147483648 ≤ x ∧ x ≤ 2147483647)) = true) : ∀ x ∈ l, I32 x := fun x hx => by
  have := List.all_eq_true.1 h x hx
  simpa [I32] using this
set_option maxRecDepth 100000 in
theorem alive17_any (w : World) : Calls Try.prog 20 #[] w fun e w' => e = .returned (.bool true) ∧ Below w.heap.size w w' := by
  have hmk : ∀ W : World, (Instr.makeSlice 25 (.int .i64 40) (.int .i64 40)).run Try.prog W = .ok (.slice (some ⟨W.heap.size, 0, none⟩) 40 40) (W.alloc (.cells (madeCells #[.int .i32 0] 40) 21)) := fun W => print_make 25 21 .i32 4 Try.underlying25 clone32_info (by decide) 40 (by omega) W
  have h0 := own_made w w.heap.size 21 .i32 40 (Nat.le_refl _) (by decide)
  have hR : Kd.R (Kd.int .i32) 21 (w.alloc (.cells (madeCells #[.int .i32 0] 40) 21)) w.heap.size (fun _ => True) (.slice (some ⟨w.heap.size, 0, none⟩) 40 40) (List.replicate 40 0) := Kd.R_of_own h0 (fun _ _ => trivial)
  have HC : Hid (Kd.C (Kd.int .i32) (w.alloc (.cells (madeCells #[.int .i32 0] 40) 21)) (some ⟨w.heap.size, 0, none⟩) (List.replicate 40 0).length (List.replicate 40 0)) := by
    obtain ⟨A, c, e, _, hC⟩ := Kd.R_reads hR
    injection e with e1 e2 e3
    subst e1
    exact hC
  have HB : Hid (Below w.heap.size w (w.alloc (.cells (madeCells #[.int .i32 0] 40) 21))) := (Below.refl _ _).alloc (Nat.le_refl _) _
  clear h0 hR
  have hq : ∀ w, (binOp BinOp.eql 51 (fval 0 0 0 0 0) (fval 0 0 0 0 0)).run Try.prog w = .ok (.bool true) w := fun _ => by kernel_rfl
  go_enter Try.func20, Try.ntmps20
  go_wp2_with (go_at_call 21; refine (find_any (some ⟨w.heap.size, 0, none⟩) 40 (List.replicate 40 0) _ HC.out (by simp) (I32_lit _ (by decide))).mono ?_; rintro e w1 ⟨rfl, hb1⟩; rw [fd_zeros]; (replace HB := Lib.hid (below_then HB.out (by simp) hb1)); clear hb1 HC)
  have hle : w.heap.size ≤ w1.heap.size := HB.out.size
  have hF : Hid (((w1.alloc (.cells (row5 0 0 0 0 0) 51)).alloc (.cells #[.int .i32 5, .int .i32 (-7), .int .i32 900] 21)).heap[w1.heap.size]? = some (.cells (row5 0 0 0 0 0) 51 (0, 0))) := blk_alloc (heap_alloc_new w1 _) _
  have hL : Hid (Kd.C (Kd.int .i32) ((w1.alloc (.cells (row5 0 0 0 0 0) 51)).alloc (.cells #[.int .i32 5, .int .i32 (-7), .int .i32 900] 21)) (some ⟨w1.heap.size + 1, 0, none⟩) [(5 : Int), -7, 900].length [5, -7, 900]) := by
    have ho := own_lit (w1.alloc (.cells (row5 0 0 0 0 0) 51)) (w1.alloc (.cells (row5 0 0 0 0 0) 51)).heap.size 21 .i32 [5, -7, 900] (Nat.le_refl _) (by simp)
    have hR : Kd.R (Kd.int .i32) 21 _ _ (fun _ => True) _ [5, -7, 900] := Kd.R_of_own ho (fun _ _ => trivial)
    obtain ⟨A, c, e, _, hC⟩ := Kd.R_reads hR
    injection e with e1 e2 e3
    subst e1
    have e4 : (w1.alloc (.cells (row5 0 0 0 0 0) 51)).heap.size = w1.heap.size + 1 := by simp
    rw [e4] at hC
    exact hC
  have HB2 : Hid (Below w.heap.size w ((w1.alloc (.cells (row5 0 0 0 0 0) 51)).alloc (.cells #[.int .i32 5, .int .i32 (-7), .int .i32 900] 21))) := (HB.out.alloc hle _).alloc (by simp; omega) _
  go_wp2_with fail
  refine (runf_any (some ⟨w1.heap.size + 1, 0, none⟩) 3 [5, -7, 900] 1 8 8 8 8 _ hL.out (I32_lit _ (by decide))).mono ?_
  rw [run_eights]
  rintro e w2 ⟨v, rfl, hR, hb⟩
  replace hF := Lib.hid (blk_below hF.out hb)
  replace hL := Lib.hid (Kd.C_below hL.out hb)
  replace HB2 := Lib.hid (below_then HB2.out (by simp; omega) hb)
  clear hb
  go_wp2_with fail
  refine (runf_any (some ⟨w1.heap.size + 1, 0, none⟩) 3 [5, -7, 900] 2 0 0 0 0 _ hL.out (I32_lit _ (by decide))).mono ?_
  rw [run_bad]
  rintro e w3 ⟨v3, rfl, hR3, hb⟩
  replace hF := Lib.hid (blk_below hF.out hb)
  replace hL := Lib.hid (Kd.C_below hL.out hb)
  replace hR := Kd.R_below hR hb
  replace HB2 := Lib.hid (below_then HB2.out HB2.out.size hb)
  obtain ⟨A, c, rfl, hc, hC⟩ := Kd.R_reads hR
  have hC := Lib.hid hC
  clear hb hR hR3
  have d0 : w3.cell? ⟨w1.heap.size, 0, none⟩ = some (.int .i64 0) := blk_cell hF.out 0
  have d1 : w3.cell? ⟨w1.heap.size, 1, none⟩ = some (.int .i64 0) := blk_cell hF.out 1
  have d2 : w3.cell? ⟨w1.heap.size, 2, none⟩ = some (.int .i64 0) := blk_cell hF.out 2
  have d3 : w3.cell? ⟨w1.heap.size, 3, none⟩ = some (.int .i64 0) := blk_cell hF.out 3
  have d4 : w3.cell? ⟨w1.heap.size, 4, none⟩ = some (.int .i64 0) := blk_cell hF.out 4
  go_wp2_with (go_at_call 12; refine (same32_any _ _ _ _ [5, -7, 900] _ hL.out (by simp) hC.out hc (by simp)).mono ?_; rintro e w4 ⟨rfl, nm, rfl⟩)
  go_ret
  exact ⟨rfl, pw_below_drewN HB2.out nm⟩
end Go.Proofs.YtojlgjdebokelabH

namespace Go.Proofs.YtojlgjdebokelabH
open Go.RowKit Go.Proofs.YtojlgjdebokelabW.PrintWords Go.Proofs.YtojlgjdebokelabW.PrintMore Go.Proofs.YtojlgjdebokelabW
attribute [local go_sem ↓] Go.wp_at_zero Go.wp_at_succ
theorem eqin_arr4 (n : Nat) (a b c d a' b' c' d' : Int) (w : World) : (Op.equalIn (n + 2) 49 (.agg #[.int .i64 a, .int .i64 b, .int .i64 c, .int .i64 d]) (.agg #[.int .i64 a', .int .i64 b', .int .i64 c', .int .i64 d'])).run Try.prog w = .ok (a == a' && (b == b' && (c == c' && d == d'))) w := by
  have h := tyu49
  have hu3 := tyu3
  have hs : ∀ w, (sizeOf 3).run Try.prog w = .ok 1 w := fun _ => by kernel_rfl
  have ha : ∀ w, (isAgg 3).run Try.prog w = .ok false w := fun _ => by kernel_rfl
  unfold Op.equalIn
  simp only [Sem.run_bind, run_underlying h, Result.andThen_ok, hs]
  rw [Std.Legacy.Range.forIn_eq_forIn_range']
  have hr : List.range' ([:4] : Std.Legacy.Range).start ([:4] : Std.Legacy.Range).size ([:4] : Std.Legacy.Range).step = [0, 1, 2, 3] := by decide
  rw [hr]
  simp only [List.forIn_cons, List.forIn_nil, Sem.run_bind, part, ha, Result.andThen_ok]
  simp [run_equalIn_int w n 3 .i64 .i64 _ _ hu3, hs, ha, part]
  by_cases e1 : a = a' <;> by_cases e2 : b = b' <;> by_cases e3 : c = c' <;> by_cases e4 : d = d' <;> simp [e1, e2, e3, e4]
theorem eq_fil (on a b c d : Int) (w : World) : (binOp BinOp.eql 54 (fval on a b c d) (fval on a b c d)).run Try.prog w = .ok (.bool true) w := by
  have ha3 : ∀ w, (isAgg 3).run Try.prog w = .ok false w := fun _ => by kernel_rfl
  have ha49 : ∀ w, (isAgg 49).run Try.prog w = .ok true w := fun _ => by kernel_rfl
  have hs49 : ∀ w, (sizeOf 49).run Try.prog w = .ok 4 w := fun _ => by kernel_rfl
  rw [run_eql_struct]
  have h : (Op.equalIn (9999 + 1) 54 (fval on a b c d) (fval on a b c d)).run Try.prog w = .ok true w := by
    refine eqA_of Try.underlying54 (by kernel_rfl) ?_
    refine eqf_cons (a := .int .i64 on) (b := .int .i64 on) (r := true) (s := true) rfl ?_ ?_ ?_ ?_
    · simp [part, ha3]
    · simp [part, ha3]
    · have := run_equalIn_int (P := Try.prog) w 9998 3 .i64 .i64 on on tyu3
      simpa using this
    · refine eqf_last (a := .agg #[.int .i64 a, .int .i64 b, .int .i64 c, .int .i64 d]) (b := .agg #[.int .i64 a, .int .i64 b, .int .i64 c, .int .i64 d]) rfl ?_ ?_ ?_
      · simp [part, ha49, hs49]
      · simp [part, ha49, hs49]
      · have := eqin_arr4 9997 a b c d a b c d w
        simpa using this
  rw [h]
  rfl
theorem fdV_fil (r : Nat → Int) : ∃ on a b c d : Int, fdV r = fval on a b c d := by
  unfold fdV fdVal
  split
  · exact ⟨_, _, _, _, _, rfl⟩
  · exact ⟨_, _, _, _, _, rfl⟩
set_option maxRecDepth 100000 in
theorem l5_far (A : Option Addr) (n c : Nat) (w : World) (hl : 300 < n) :
    Calls Try.prog 5 #[.slice A n c] w fun e w' => e = .returned (.bool true) ∧ Below w.heap.size w w' := by
  have h300 : (300 : Int) < (n : Int) := by omega
  go_enter Try.func5, Try.ntmps5
  go_wp2_with (go_at_call 20; refine (alive17_any _).mono ?_; rintro e w1 ⟨rfl, hb⟩; (replace hb := Lib.hid hb))
  go_ret
  exact ⟨rfl, hb.out⟩
set_option maxRecDepth 100000 in
theorem l5_long (A : Option Addr) (n c : Nat) (w : World) (hl : 120 < n) (hl3 : n ≤ 300) :
    Calls Try.prog 5 #[.slice A n c] w fun e w' => e = .returned (.bool true) ∧ Below w.heap.size w w' := by
  have h300 : ¬ (300 : Int) < (n : Int) := by omega
  have h120 : (120 : Int) < (n : Int) := by omega
  have hq : ∀ w, (binOp BinOp.eql 51 (fval 0 0 0 0 0) (fval 0 0 0 0 0)).run Try.prog w = .ok (.bool true) w := fun _ => by kernel_rfl
  go_enter Try.func5, Try.ntmps5
  go_wp2_with (first
    | (go_at_call 20; refine (alive17_any _).mono ?_; rintro e w1 ⟨rfl, hb⟩; (replace hb := Lib.hid hb))
    | (go_at_call 21; refine (find_long A c n _ hl).mono ?_; rintro e w2 ⟨rfl, hb2⟩; (replace hb := Lib.hid (below_then hb.out hb.out.size hb2)); clear hb2))
  go_ret
  exact ⟨rfl, hb.out.alloc hb.out.size _⟩
set_option maxRecDepth 100000 in
set_option maxHeartbeats 4000000 in
theorem l5_short (A : Option Addr) (c : Nat) (l : List Int) (w : World) (hr : Kd.C (Kd.int .i32) w A l.length l) (hx : ∀ x ∈ l, I32 x) (hl : l.length ≤ 120) :
    Calls Try.prog 5 #[.slice A l.length c] w fun e w' => e = .returned (.bool true) ∧ Below w.heap.size w w' := by
  have h300 : ¬ (300 : Int) < (l.length : Int) := by omega
  have h120 : ¬ (120 : Int) < (l.length : Int) := by omega
  have Hr := Lib.hid hr
  have Hx := Lib.hid hx
  clear hr hx
  obtain ⟨on, i0, i1, i2, i3, hv⟩ := fdV_fil (alk l)
  have hv2 : Hid (rfV (alk l) = fval on i0 i1 i2 i3) := (rfV_eq _).trans hv
  have Hv := Lib.hid hv
  clear hv
  have hq := eq_fil on i0 i1 i2 i3
  go_enter Try.func5, Try.ntmps5
  go_wp2_with (first
    | (go_at_call 20; refine (alive17_any _).mono ?_; rintro e w1 ⟨rfl, hb⟩; (replace hb := Lib.hid hb))
    | (go_at_call 21; refine (find_any A c l _ (Kd.C_below Hr.out hb.out) hl Hx.out).mono ?_; rintro e w2 ⟨rfl, hb2⟩; rw [Hv.out]; (replace hb := Lib.hid (below_then hb.out hb.out.size hb2)); clear hb2))
  have hc0 := Lib.hid (blk_new w2 (.cells (row5 on i0 i1 i2 i3) 51))
  have hb3 := Lib.hid (hb.out.alloc hb.out.size (.cells (row5 on i0 i1 i2 i3) 51))
  go_wp2_with fail
  go_region_held3 (fun w' => w'.heap[w2.heap.size]? = some (.cells (row5 on i0 i1 i2 i3) 51 (0, 0)) ∧ w'.cell? ⟨w2.heap.size, 0, none⟩ = some (.int .i64 on) ∧ w'.cell? ⟨w2.heap.size, 1, none⟩ = some (.int .i64 i0) ∧ w'.cell? ⟨w2.heap.size, 2, none⟩ = some (.int .i64 i1) ∧ w'.cell? ⟨w2.heap.size, 3, none⟩ = some (.int .i64 i2) ∧ w'.cell? ⟨w2.heap.size, 4, none⟩ = some (.int .i64 i3))
    (first | exact hHeld | exact ⟨hc0.out, blk_cell hc0.out 0, blk_cell hc0.out 1, blk_cell hc0.out 2, blk_cell hc0.out 3, blk_cell hc0.out 4⟩ | exact ⟨blk_below (blk_drew hc0.out) hb4, blk_cell (blk_below (blk_drew hc0.out) hb4) 0, blk_cell (blk_below (blk_drew hc0.out) hb4) 1, blk_cell (blk_below (blk_drew hc0.out) hb4) 2, blk_cell (blk_below (blk_drew hc0.out) hb4) 3, blk_cell (blk_below (blk_drew hc0.out) hb4) 4⟩)
    ((go_at_call 22; refine (rfind_any A c l _ (Kd.C_below Hr.out (below_drew1 hb3.out)) hl Hx.out).mono ?_; rintro e w4 ⟨rfl, hb4⟩; rw [hv2.out]))
  have hb5 := Lib.hid (below_then (below_drew1 hb3.out) (by have := hb3.out.size; exact this) hb4)
  go_wp2
  go_ret
  exact ⟨rfl, hb5.out⟩
theorem l5_any (A : Option Addr) (c : Nat) (l : List Int) (w : World) (hr : Kd.C (Kd.int .i32) w A l.length l) (hx : ∀ x ∈ l, I32 x) :
    Calls Try.prog 5 #[.slice A l.length c] w fun e w' => e = .returned (.bool true) ∧ Below w.heap.size w w' := by
  by_cases h3 : 300 < l.length
  · exact l5_far A _ c w h3
  by_cases h1 : 120 < l.length
  · exact l5_long A _ c w h1 (by omega)
  · exact l5_short A c l w hr hx (by omega)
end Go.Proofs.YtojlgjdebokelabH
