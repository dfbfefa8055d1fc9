/- What gain.Restore does where all may be restored: the dice, the rests, the lines. -/
import Derived.Test.YtojlgjdebokelabHRound
import Derived.Test.YtojlgjdebokelabHList
import Derived.Test.YtojlgjdebokelabPLib3x1
import Derived.Test.YtojlgjdebokelabWMore
import Derived.OneCell

import Derived.StillTailTactics
import Derived.Deep.RegionHeld3
import Derived.Deep.RegionWith
set_option linter.unusedVariables false
namespace Go.Proofs.YtojlgjdebokelabH
open Go.RowKit Go.Proofs.YtojlgjdebokelabW.PrintWords Go.Proofs.YtojlgjdebokelabW.PrintMore Go.Proofs.Ytojlgjdebokelab.PLib3

def absv (x : Int) : Int := if x < 0 then -x else x
theorem size_any (x : Int) (w : World) (hx : -32767 ≤ x ∧ x ≤ 32767) :
    Calls Try.prog 43 #[.int .i64 x] w fun e w' => e = .returned (.int .i64 (absv x)) ∧ w = w' := by
  unfold absv
  by_cases c : x < 0
  · rw [if_pos c]
    go_enter Try.func43, Try.ntmps43
    go_wp2
    go_ret
    exact ⟨rfl, rfl⟩
  · rw [if_neg c]
    by_cases c2 : x = 0
    · subst c2
      go_enter Try.func43, Try.ntmps43
      go_wp2
      go_ret
      exact ⟨rfl, rfl⟩
    · have c3 : 0 < x := by omega
      clear c c2
      go_enter Try.func43, Try.ntmps43
      go_wp2
      go_ret
      exact ⟨rfl, rfl⟩
def sgn (n like : Int) : Int := if like < 0 then -n else n
theorem signed_any (n like : Int) (w : World) (hx : -9223372036854775807 ≤ n ∧ n ≤ 9223372036854775807) :
    Calls Try.prog 45 #[.int .i64 n, .int .i64 like] w fun e w' => e = .returned (.int .i64 (sgn n like)) ∧ w = w' := by
  unfold sgn
  by_cases c : like < 0
  · rw [if_pos c]
    go_enter Try.func45, Try.ntmps45
    go_wp2
    go_ret
    exact ⟨rfl, rfl⟩
  · rw [if_neg c]
    go_enter Try.func45, Try.ntmps45
    go_wp2
    go_ret
    exact ⟨rfl, rfl⟩
def nextd (d : Int) : Int := IntKind.u16.wrap (IntKind.u16.wrap (13849 * d) + 16831)
theorem wrap_u16 (n : Int) : IntKind.u16.wrap n = n % 65536 := by simp [IntKind.wrap, IntKind.bits, IntKind.signed]
theorem nextd_bd (d : Int) : 0 ≤ nextd d ∧ nextd d ≤ 65535 := by unfold nextd; rw [wrap_u16]; omega
theorem nextd_eq (d : Int) : nextd d = (d * 13849 + 16831) % 65536 := by unfold nextd; rw [wrap_u16, wrap_u16]; omega
theorem throw_any (D B : Nat) (w : World) (d : Int) (h0 : 0 ≤ d) (h1 : d ≤ 65535) (hb : w.heap[B]? = some (.cells #[.int .u16 d] 86 (0, 0))) :
    Calls Try.prog 47 #[.pointer (some ⟨B, 0, none⟩)] w fun e w' => e = .returned (.bool (decide (32768 ≤ nextd d))) ∧ w.setCell ⟨B, 0, none⟩ (.int .u16 (nextd d)) = w' := by
  have hc : w.cell? ⟨B, 0, none⟩ = some (.int .u16 d) := by
    have := cell_of_row w B 0 #[.int .u16 d] 86 (0, 0) hb
    simpa using this
  have hf : w.frozen? ⟨B, 0, none⟩ = false := by simp [World.frozen?, hb]
  unfold nextd
  go_enter Try.func47, Try.ntmps47
  go_wp2
  go_ret
  exact ⟨rfl, rfl⟩
/-- The dice behind the first i steps. -/
def dsum (q : List Int) : Nat → Int
  | 0 => 0
  | i + 1 => IntKind.u16.wrap (dsum q i + absv (rd q i))
theorem dsum_bd (q : List Int) (i : Nat) : 0 ≤ dsum q i ∧ dsum q i ≤ 65535 := by
  cases i with
  | zero => simp [dsum]
  | succ i => simp only [dsum]; rw [wrap_u16]; omega
theorem absv_bd {x : Int} (hx : -32767 ≤ x ∧ x ≤ 32767) : 0 ≤ absv x ∧ absv x ≤ 32767 := by unfold absv; split <;> omega
/-- A block of the dice, at D. -/
structure Dice (D : Nat) (w wr : World) (d : Int) : Prop where
  box : wr.heap[D]? = some (.cells #[.int .u16 d] 86 (0, 0))
  below : Below D w wr
  size : wr.heap.size = D + 1
theorem Dice.cell {D : Nat} {w wr : World} {d : Int} (h : Dice D w wr d) : wr.cell? ⟨D, 0, none⟩ = some (.int .u16 d) ∧ wr.frozen? ⟨D, 0, none⟩ = false := by
  have hb := h.box
  have := cell_of_row wr D 0 #[.int .u16 d] 86 (0, 0) hb
  exact ⟨by simpa using this, by simp [World.frozen?, hb]⟩
theorem Dice.set' {D : Nat} {w wr : World} {d : Int} (h : Dice D w wr d) (e : Int) : Dice D w (wr.setCell ⟨D, 0, none⟩ (.int .u16 e)) e :=
  ⟨by have hb := h.box; simp [World.setCell, Array.getElem?_modify, hb], h.below.setCell (by simp) _, by simpa [World.setCell] using h.size⟩
theorem Dice.setd {D : Nat} {w wr : World} {d : Int} (h : Dice D w wr d) (e : Int) : Dice D w (wr.setCell ⟨D, 0, none⟩ (.int .u16 e)).drew e :=
  ⟨(h.set' e).box, below_drew (h.set' e).below, (h.set' e).size⟩
/-- How many of the first k steps aren't 0. -/
def nzc (q : List Int) : Nat → Nat
  | 0 => 0
  | k + 1 => if rd q k = 0 then nzc q k else nzc q k + 1
/-- The dice behind the first k lines. -/
def dcs (q : List Int) (noise lines D : Int) : Nat → Int
  | 0 => D
  | k + 1 => if rd q k = 0 ∧ noise > 0 ∧ (k : Int) < lines then nextd (dcs q noise lines D k) else dcs q noise lines D k
theorem dcs_bd (q : List Int) (noise lines D : Int) (hD : 0 ≤ D ∧ D ≤ 65535) (k : Nat) : 0 ≤ dcs q noise lines D k ∧ dcs q noise lines D k ≤ 65535 := by
  induction k with
  | zero => exact hD
  | succ k ih =>
    simp only [dcs]
    split
    · exact nextd_bd _
    · exact ih
def c32 (n : Int) : Int := clamp n (-2147483648) 2147483647
/-- A line that is restored. -/
def rv (q : List Int) (s : Int) (rests : List Int) (noise lines D j : Int) : Int :=
  if rd q j = 0 then (if noise > 0 ∧ j < lines then c32 (if 32768 ≤ dcs q noise lines D (j.toNat + 1) then -(rnd (noise * s / 16) 16) else rnd (noise * s / 16) 16) else 0)
  else c32 (sgn (rnd (absv (rd q j) * s + (if nzc q j.toNat < rests.length then (2 * rd rests (nzc q j.toNat) - 1) * (s / 4) else 0)) 16) (rd q j))
/-- What holds while the lines are restored: block D: the dice; block D + 1: the lines. -/
structure Rst (n D : Nat) (f : Int → Int) (w wr : World) (k : Nat) (d : Int) : Prop where
  row : Kd.R (Kd.int .i32) 21 wr D (fun _ => True) (.slice (some ⟨D + 1, 0, none⟩) n n) (mix k n f)
  box : wr.heap[D]? = some (.cells #[.int .u16 d] 86 (0, 0))
  below : Below D w wr
theorem Rst.start {n D : Nat} {f : Int → Int} {w wr : World} {d : Int} (hn : n ≤ 120) (h : Dice D w wr d) :
    Rst n D f w (wr.alloc (.cells (madeCells #[.int .i32 0] n) 21)) 0 d := by
  have hz := h.size
  have h1 := own_made wr D 21 .i32 n (by omega) (by omega)
  rw [hz] at h1
  refine ⟨?_, ?_, ?_⟩
  · rw [mix_zero]
    refine Kd.R_of_own ?_ (fun _ _ => trivial)
    rw [show (List.replicate n (0 : Int)).length = n by simp]
    exact h1
  · exact (Below.heap_alloc _ _ _ (by omega)).trans h.box
  · exact h.below.alloc (by omega) _
theorem Rst.cell {n D : Nat} {f : Int → Int} {w wr : World} {k : Nat} {d : Int} (h : Rst n D f w wr k d) (hk : k < n) :
    (∃ u, wr.cell? ⟨D + 1, k, none⟩ = some (.int .i32 u)) ∧ wr.frozen? ⟨D + 1, k, none⟩ = false := by
  have := Kd.R_celln (0 : Int) h.row (k : Int) (by omega) (by omega)
  rw [Int.toNat_natCast] at this
  exact ⟨⟨_, this.1⟩, this.2⟩
theorem Rst.drew {n D : Nat} {f : Int → Int} {w wr : World} {k : Nat} {d : Int} (h : Rst n D f w wr k d) (m : Nat) : Rst n D f w (wr.drewN m) k d :=
  ⟨Kd.R_drewN h.row m, h.box, pw_below_drewN h.below m⟩
theorem Rst.step {n D : Nat} {f : Int → Int} {w wr : World} {k : Nat} {d : Int} (h : Rst n D f w wr k d) (hk : k < n) (v : Int) (hv : v = f k) :
    Rst n D f w (wr.setCell ⟨D + 1, k, none⟩ (.int .i32 v)) (k + 1) d := by
  refine ⟨?_, ?_, ?_⟩
  · have := Kd.R_putn h.row (k : Int) v
    rw [Int.toNat_natCast, mix_set k n f hk v hv] at this
    exact this
  · exact (Below.heap_setCell _ _ _ _ (by simp)).trans h.box
  · exact h.below.setCell (by simp) _
theorem Rst.skip {n D : Nat} {f : Int → Int} {w wr : World} {k : Nat} {d : Int} (h : Rst n D f w wr k d) (hk : k < n) (hv : f k = 0) : Rst n D f w wr (k + 1) d := by
  refine ⟨?_, h.box, h.below⟩
  have e : mix (k + 1) n f = mix k n f := by
    unfold mix
    rw [tab_succ, hv, show n - k = (n - (k + 1)) + 1 by omega, List.replicate_succ, List.append_assoc]
    rfl
  rw [e]; exact h.row
theorem Rst.roll {n D : Nat} {f : Int → Int} {w wr : World} {k : Nat} {d : Int} (h : Rst n D f w wr k d) (e : Int) : Rst n D f w (wr.setCell ⟨D, 0, none⟩ (.int .u16 e)) k e := by
  refine ⟨Kd.R_set h.row h.box (by decide) 0 _, ?_, h.below.setCell (by simp) _⟩
  have hb := h.box
  simp [World.setCell, Array.getElem?_modify, hb]
theorem bonus_bd {s b : Int} (hs : 65536 ≤ s) (hs2 : s ≤ 140737488355328) (hb : b = 0 ∨ b = 1) : -35184372088832 ≤ (2 * b - 1) * (s / 4) ∧ (2 * b - 1) * (s / 4) ≤ 35184372088832 ∧ -(s / 4) ≤ (2 * b - 1) * (s / 4) := by
  rcases hb with rfl | rfl
  · rw [show (2 * (0 : Int) - 1) = -1 by decide, Int.neg_one_mul]; omega
  · rw [show (2 * (1 : Int) - 1) = 1 by decide, Int.one_mul]; omega
theorem times_bd {a s : Int} (ha : 1 ≤ a) (ha2 : a ≤ 32767) (hs : 65536 ≤ s) (hs2 : s ≤ 140737488355328) : s ≤ a * s ∧ a * s ≤ 4611545280939032576 := by
  constructor
  · have := Int.mul_le_mul_of_nonneg_right ha (show (0 : Int) ≤ s by omega); omega
  · have : a * s ≤ 32767 * 140737488355328 := Int.mul_le_mul ha2 hs2 (by omega) (by omega)
    omega
theorem rv_none (q : List Int) (s : Int) (rests : List Int) (noise lines D : Int) (k : Nat) (h0 : rd q k = 0) (h : ¬ (noise > 0 ∧ (k : Int) < lines)) : rv q s rests noise lines D k = 0 := by
  unfold rv; rw [if_pos h0, if_neg h]
theorem rv_noise (q : List Int) (s : Int) (rests : List Int) (noise lines D : Int) (k : Nat) (h0 : rd q k = 0) (h : noise > 0 ∧ (k : Int) < lines) : rv q s rests noise lines D k = c32 (if 32768 ≤ nextd (dcs q noise lines D k) then -(rnd (noise * s / 16) 16) else rnd (noise * s / 16) 16) := by
  have e : dcs q noise lines D (k + 1) = nextd (dcs q noise lines D k) := by
    simp only [dcs]
    rw [if_pos ⟨h0, h⟩]
  unfold rv
  rw [if_pos h0, if_pos h, Int.toNat_natCast, e]
theorem rv_rest (q : List Int) (s : Int) (rests : List Int) (noise lines D : Int) (k : Nat) (h0 : rd q k ≠ 0) (h : nzc q k < rests.length) : rv q s rests noise lines D k = c32 (sgn (rnd (absv (rd q k) * s + (2 * rd rests (nzc q k) - 1) * (s / 4)) 16) (rd q k)) := by
  unfold rv; rw [if_neg h0, Int.toNat_natCast, if_pos h]
theorem rv_plain (q : List Int) (s : Int) (rests : List Int) (noise lines D : Int) (k : Nat) (h0 : rd q k ≠ 0) (h : ¬ nzc q k < rests.length) : rv q s rests noise lines D k = c32 (sgn (rnd (absv (rd q k) * s) 16) (rd q k)) := by
  unfold rv; rw [if_neg h0, Int.toNat_natCast, if_neg h, Int.add_zero]
theorem rd_drop (l : List Int) (u : Nat) : rd (l.drop u) 0 = rd l u := by
  unfold rd
  simp [List.getD_eq_getElem?_getD]
theorem sgn_bd {n like : Int} (h : 0 ≤ n) : -n ≤ sgn n like ∧ sgn n like ≤ n := by unfold sgn; split <;> omega
theorem info21 : (Try.prog.info? 21).map (fun i => (i.zero, i.size, i.bytes)) = some (some (.int .i32 0), 1, 4) := by kernel_rfl
theorem info3 : (Try.prog.info? 3).map (fun i => (i.zero, i.size, i.bytes)) = some (some (.int .i64 0), 1, 8) := by kernel_rfl
/-- What is left of the rests, behind the first u. -/
structure Rest (w : World) (rests : List Int) (u : Nat) (A : Option Addr) (n c : Nat) : Prop where
  le : u ≤ rests.length
  len : n = rests.length - u
  cap : n ≤ c
  reads : ReadsOf (Value.int .i64) 0 w A n (rests.drop u)
theorem Rest.head {w : World} {rests : List Int} {u : Nat} {A : Option Addr} {n c : Nat} (h : Rest w rests u A n c) (hn : 0 < n) : ∃ ad, A = some ad ∧ ∀ wr, Below w.heap.size w wr → wr.cell? ad = some (.int .i64 (rd rests u)) := by
  obtain ⟨ad, rfl, hc⟩ := h.reads.2.2 hn
  refine ⟨ad, rfl, fun wr hb => ?_⟩
  have h0 := hc 0 hn
  have e : (rests.drop u).getD 0 0 = rd rests u := by
    exact rd_drop rests u
  rw [e] at h0
  have ea : ad.add 0 = ad := by unfold Addr.add; rfl
  rw [ea] at h0
  exact pw_cell_below hb h0
theorem Rest.cut {w : World} {rests : List Int} {u : Nat} {A : Option Addr} {n c : Nat} (h : Rest w rests u A n c) (hn : 0 < n) : ∃ A' : Option Addr, (∀ W : World, (Instr.slice 22 (.slice A n c) (some (.int .i64 1)) none none).run Try.prog W = .ok (.slice A' (n - 1) (c - 1)) W) ∧ Rest w rests (u + 1) A' (n - 1) (c - 1) := by
  obtain ⟨i0, hi, hzz⟩ := Option.map_eq_some_iff.1 info3
  simp only [Prod.mk.injEq] at hzz
  have hl : (rests.drop u).length = n := h.reads.1
  obtain ⟨A', h1, h2, h3⟩ := print_drop_of (P := Try.prog) (Value.int .i64) (0 : Int) 22 3 .i64 Try.underlying22 hi hzz.2.1 A c (rests.drop u) 1 (by omega) (by omega) (by rw [hl]; exact h.cap)
  rw [hl] at h1 h2
  have hl2 : ((rests.drop u).drop (1 : Int).toNat).length = n - 1 := by rw [List.length_drop, hl]; rfl
  rw [hl2] at h1 h2
  refine ⟨A', h1, ⟨?_, ?_, ?_, ?_⟩⟩
  · have := h.len; have := h.le; omega
  · have := h.len; omega
  · have := h.cap; omega
  · have := h2 w h.reads
    rwa [show ((rests.drop u).drop (1 : Int).toNat) = rests.drop (u + 1) by rw [List.drop_drop]; rfl] at this
set_option maxRecDepth 100000 in
set_option maxHeartbeats 2000000 in
theorem restore_walk (Aq Ar : Option Addr) (cq cr : Nat) (q rests : List Int) (g noise lines s : Int) (w : World) (hrq : Kd.C (Kd.int .i64) w Aq q.length q) (hcq : q.length ≤ cq) (hrr : ReadsOf (Value.int .i64) 0 w Ar rests.length rests) (hcr : rests.length ≤ cr)
    (hq : ∀ x ∈ q, -32767 ≤ x ∧ x ≤ 32767) (nq : q.length ≤ 120) (hs : 65536 ≤ s) (hs2 : s ≤ 140737488355328) (hn : 0 ≤ noise ∧ noise ≤ 7) (hbits : ∀ b ∈ rests, b = 0 ∨ b = 1)
    (hmay : Calls Try.prog 41 #[.int .i64 q.length, .slice Aq q.length cq, .int .i64 g] w fun e w' => e = .returned (.tuple #[.int .i64 s, .int .i64 0]) ∧ Drawn0 w w')
    (hres : ∀ n : Nat, Calls Try.prog 42 #[.slice Aq q.length cq, .slice Ar rests.length cr, .int .i64 noise, .int .i64 lines] (w.drewN n) fun e w' => e = .returned (.bool true) ∧ Drawn0 (w.drewN n) w') :
    Calls Try.prog 10 #[.slice Aq q.length cq, .int .i64 g, .slice Ar rests.length cr, .int .i64 noise, .int .i64 lines] w fun e w' => ∃ v : Value, e = .returned (.tuple #[v, .int .i64 0]) ∧ Kd.R (Kd.int .i32) 21 w' w.heap.size (fun _ => True) v (tab q.length (rv q s rests noise lines (dsum q q.length))) ∧ Below w.heap.size w w' := by
  have Hrq := Lib.hid hrq
  have Hrr := Lib.hid hrr
  have Hq := Lib.hid hq
  have Hmay := Lib.hid hmay
  have Hres := Lib.hid hres
  have Hbits := Lib.hid hbits
  clear hrq hrr hq hmay hres hbits
  go_enter Try.func10, Try.ntmps10
  go_wp2_with fail
  refine (Hmay.out).mono ?_
  rintro e w1 ⟨rfl, ⟨n1, rfl⟩⟩
  go_wp2_with fail
  refine (Hres.out _).mono ?_
  rintro e w1 ⟨rfl, ⟨n2, rfl⟩⟩
  go_wp2
  go_loopw [44] (fun i wr => ∃ k : Nat, k ≤ q.length ∧ i = .int .i64 k ∧ Dice w.heap.size w wr (dsum q k)) (fun i _ => q.length - (intOf i).toNat)
  case atStart => exact ⟨0, by omega, rfl, ⟨heap_alloc_new (w.drewN (n1 + n2)) _, (pw_below_drewN (Below.refl _ _) _).alloc (Nat.le_refl _) _, by simp⟩⟩
  case round =>
    obtain ⟨k, hk, rfl, hD⟩ := hrel
    by_cases hlt : k < q.length
    · obtain ⟨ad, rfl, hx⟩ := Kd.at_int (Kd.C_below Hrq.out hD.below) (k : Int) (by omega) (by omega)
      rw [Int.toNat_natCast] at hx
      have hqb := Hq.out _ (rd_mem q k (by omega) (by omega))
      obtain ⟨hc, hf⟩ := hD.cell
      have ha := absv_bd hqb
      have hd := dsum_bd q k
      go_wp2_with fail
      go_region_with (go_at_call 43; refine (size_any _ _ hqb).mono ?_; rintro e w' ⟨rfl, rfl⟩)
      all_goals
        go_wp2
        go_roundw
        case rel => exact ⟨k + 1, by omega, by go_num, hD.setd _⟩
        case measure => simp [intOf]; omega
    · have hkk : k = q.length := by omega
      subst hkk
      have hmk := print_make 25 21 .i32 4 Try.underlying25 info21 (by decide) q.length (by omega)
      have hz := Lib.hid hD.size
      have HD := Lib.hid hD
      clear hD
      obtain ⟨wo, rfl⟩ : ∃ wo : World, wo = wr := ⟨_, rfl⟩
      go_wp2
      rw [hz.out]
      go_loopw [2, 61] (fun r i wr => ∃ k : Nat, k ≤ q.length ∧ i = .int .i64 k ∧ (∃ (A2 : Option Addr) (n2 c2 : Nat), r = .slice A2 n2 c2 ∧ Rest w rests (min (nzc q k) rests.length) A2 n2 c2) ∧ Rst q.length w.heap.size (rv q s rests noise lines (dsum q q.length)) w wr k (dcs q noise lines (dsum q q.length) k)) (fun _ i _ => q.length - (intOf i).toNat)
      case atStart =>
        exact ⟨0, by omega, rfl, ⟨Ar, _, _, rfl, ⟨by simp [nzc], by simp [nzc], hcr, by simpa [nzc] using Hrr.out⟩⟩, Rst.start nq HD.out⟩
      case round =>
        obtain ⟨k, hk, rfl, ⟨A2, n2, c2, rfl, hRe⟩, hR⟩ := hrel
        by_cases hlt : k < q.length
        · obtain ⟨ad, rfl, hx⟩ := Kd.at_int (Kd.C_below Hrq.out hR.below) (k : Int) (by omega) (by omega)
          rw [Int.toNat_natCast] at hx
          have hqb := Hq.out _ (rd_mem q k (by omega) (by omega))
          obtain ⟨⟨u, hcell⟩, hfz⟩ := hR.cell hlt
          have hab := absv_bd hqb
          by_cases hz0 : rd q k = 0
          · have hnz : nzc q (k + 1) = nzc q k := by simp only [nzc]; rw [if_pos hz0]
            have hb0 : (rd q k != 0) = false := by rw [hz0]; rfl
            by_cases hno : noise > 0 ∧ (k : Int) < lines
            · have hd := dcs_bd q noise lines (dsum q q.length) (dsum_bd q _) k
              have hdc : dcs q noise lines (dsum q q.length) (k + 1) = nextd (dcs q noise lines (dsum q q.length) k) := by
                simp only [dcs]; rw [if_pos ⟨hz0, hno⟩]
              have hrv := rv_noise q s rests noise lines (dsum q q.length) k hz0 hno
              have hp : 0 ≤ noise * s ∧ noise * s ≤ 985162418487296 := ⟨Int.mul_nonneg (by omega) (by omega), by
                have : noise * s ≤ 7 * 140737488355328 := Int.mul_le_mul hn.2 hs2 (by omega) (by omega)
                omega⟩
              have hrr := rnd_range (noise * s / 16) 16 (by omega) (by omega)
              by_cases hh : 32768 ≤ nextd (dcs q noise lines (dsum q q.length) k)
              · have hdec : decide (32768 ≤ nextd (dcs q noise lines (dsum q q.length) k)) = true := decide_eq_true hh
                have Hh := Lib.hid hh
                clear hh
                have Hz := Lib.hid hz0
                have Hnz := Lib.hid hnz
                have Hdc := Lib.hid hdc
                have Hrv := Lib.hid hrv
                have hd1 : decide (0 < noise) = true := decide_eq_true hno.1
                have hd2 : decide ((k : Int) < lines) = true := decide_eq_true hno.2
                clear hz0 hnz hdc hrv hno
                go_wp2_with fail
                refine (size_any _ _ hqb).mono ?_
                rintro e w' ⟨rfl, rfl⟩
                go_wp2_with fail
                refine (fixround_any _ _ _ (by omega)).mono ?_
                rintro e w' ⟨rfl, nr, rfl⟩
                go_wp2_with fail
                refine (throw_any 0 _ _ _ hd.1 hd.2 (hR.drew nr).box).mono ?_
                rintro e w' ⟨rfl, rfl⟩
                go_wp2_with (go_at_call 44; refine (sat32_any _ _).mono ?_; rintro e w' ⟨rfl, rfl⟩)
                go_roundw
                case rel => exact ⟨k + 1, by omega, by go_num, ⟨A2, n2, c2, rfl, by rw [Hnz.out]; exact hRe⟩, by rw [Hdc.out]; exact ((hR.drew nr).roll _).step hlt _ (by rw [Hrv.out, if_pos Hh.out]; rfl)⟩
                case measure => simp [intOf]; omega
              · have hdec : decide (32768 ≤ nextd (dcs q noise lines (dsum q q.length) k)) = false := decide_eq_false hh
                have Hh := Lib.hid hh
                clear hh
                have Hz := Lib.hid hz0
                have Hnz := Lib.hid hnz
                have Hdc := Lib.hid hdc
                have Hrv := Lib.hid hrv
                have hd1 : decide (0 < noise) = true := decide_eq_true hno.1
                have hd2 : decide ((k : Int) < lines) = true := decide_eq_true hno.2
                clear hz0 hnz hdc hrv hno
                go_wp2_with fail
                refine (size_any _ _ hqb).mono ?_
                rintro e w' ⟨rfl, rfl⟩
                go_wp2_with fail
                refine (fixround_any _ _ _ (by omega)).mono ?_
                rintro e w' ⟨rfl, nr, rfl⟩
                go_wp2_with fail
                refine (throw_any 0 _ _ _ hd.1 hd.2 (hR.drew nr).box).mono ?_
                rintro e w' ⟨rfl, rfl⟩
                go_wp2_with (go_at_call 44; refine (sat32_any _ _).mono ?_; rintro e w' ⟨rfl, rfl⟩)
                go_roundw
                case rel => exact ⟨k + 1, by omega, by go_num, ⟨A2, n2, c2, rfl, by rw [Hnz.out]; exact hRe⟩, by rw [Hdc.out]; exact ((hR.drew nr).roll _).step hlt _ (by rw [Hrv.out, if_neg (Int.not_le.mpr Hh.out)]; rfl)⟩
                case measure => simp [intOf]; omega
            · have hdc : dcs q noise lines (dsum q q.length) (k + 1) = dcs q noise lines (dsum q q.length) k := by
                simp only [dcs]; rw [if_neg (fun h => hno h.2)]
              have hrv := rv_none q s rests noise lines (dsum q q.length) k hz0 hno
              have Hz := Lib.hid hz0
              have Hnz := Lib.hid hnz
              have Hdc := Lib.hid hdc
              have Hrv := Lib.hid hrv
              clear hz0 hnz hdc hrv
              by_cases hn0 : 0 < noise
              · have hd1 : decide (0 < noise) = true := decide_eq_true hn0
                have hd2 : decide ((k : Int) < lines) = false := decide_eq_false (fun h => hno ⟨hn0, h⟩)
                clear hno
                go_wp2_with (go_at_call 43; refine (size_any _ _ hqb).mono ?_; rintro e w' ⟨rfl, rfl⟩)
                go_roundw
                case rel => exact ⟨k + 1, by omega, by go_num, ⟨A2, n2, c2, rfl, by rw [Hnz.out]; exact hRe⟩, by rw [Hdc.out]; exact hR.skip hlt Hrv.out⟩
                case measure => simp [intOf]; omega
              · have hd1 : decide (0 < noise) = false := decide_eq_false hn0
                clear hno
                go_wp2_with (go_at_call 43; refine (size_any _ _ hqb).mono ?_; rintro e w' ⟨rfl, rfl⟩)
                go_roundw
                case rel => exact ⟨k + 1, by omega, by go_num, ⟨A2, n2, c2, rfl, by rw [Hnz.out]; exact hRe⟩, by rw [Hdc.out]; exact hR.skip hlt Hrv.out⟩
                case measure => simp [intOf]; omega
          · have hnz : nzc q (k + 1) = nzc q k + 1 := by simp only [nzc]; rw [if_neg hz0]
            have hb0 : (rd q k != 0) = true := bne_iff_ne.mpr hz0
            have hab1 : 1 ≤ absv (rd q k) := by unfold absv; split <;> omega
            have ht := times_bd hab1 hab.2 hs hs2
            have hdc : dcs q noise lines (dsum q q.length) (k + 1) = dcs q noise lines (dsum q q.length) k := by
              simp only [dcs]; rw [if_neg (fun h => hz0 h.1)]
            by_cases hu : nzc q k < rests.length
            · have hn2 : 0 < n2 := by have := hRe.len; omega
              obtain ⟨ar, rfl, hxr⟩ := hRe.head hn2
              have hxr := hxr wr hR.below
              obtain ⟨A3, hcut, hRe2⟩ := hRe.cut hn2
              have hrv := rv_rest q s rests noise lines (dsum q q.length) k hz0 hu
              rw [show min (nzc q k) rests.length = nzc q k by omega] at hxr
              have hbit := Hbits.out _ (rd_mem rests (nzc q k) (by omega) (by omega))
              have hbo := bonus_bd hs hs2 hbit
              have hb01 : 0 ≤ rd rests (nzc q k) ∧ rd rests (nzc q k) ≤ 1 := by omega
              have hrr := rnd_range (absv (rd q k) * s + (2 * rd rests (nzc q k) - 1) * (s / 4)) 16 (by omega) (by omega)
              have hmin : min (nzc q (k + 1)) rests.length = min (nzc q k) rests.length + 1 := by omega
              have Hmin := Lib.hid hmin
              have Hdc := Lib.hid hdc
              have Hrv := Lib.hid hrv
              have HRe2 := Lib.hid hRe2
              clear hbit hmin hdc hrv hnz hRe hRe2 hz0
              go_wp2_with fail
              refine (size_any _ _ hqb).mono ?_
              rintro e w' ⟨rfl, rfl⟩
              go_wp2_with fail
              refine (fixround_any _ _ _ (by omega)).mono ?_
              rintro e w' ⟨rfl, nr, rfl⟩
              go_wp2_with fail
              refine (signed_any _ _ _ (by omega)).mono ?_
              rintro e w' ⟨rfl, rfl⟩
              go_wp2_with (go_at_call 44; refine (sat32_any _ _).mono ?_; rintro e w' ⟨rfl, rfl⟩)
              go_roundw
              case rel => exact ⟨k + 1, by omega, by go_num, ⟨A3, _, _, rfl, by rw [Hmin.out]; exact HRe2.out⟩, by rw [Hdc.out]; exact (hR.drew nr).step hlt _ (by rw [Hrv.out]; rfl)⟩
              case measure => simp [intOf]; omega
            · have hn2 : n2 = 0 := by have := hRe.len; omega
              have hrv := rv_plain q s rests noise lines (dsum q q.length) k hz0 hu
              have hrr := rnd_range (absv (rd q k) * s) 16 (by omega) (by omega)
              have hmin : min (nzc q (k + 1)) rests.length = min (nzc q k) rests.length := by omega
              have Hmin := Lib.hid hmin
              have Hdc := Lib.hid hdc
              have Hrv := Lib.hid hrv
              have HRe := Lib.hid hRe
              clear hmin hdc hrv hnz hRe hz0
              subst hn2
              go_wp2_with fail
              refine (size_any _ _ hqb).mono ?_
              rintro e w' ⟨rfl, rfl⟩
              go_wp2_with fail
              refine (fixround_any _ _ _ (by omega)).mono ?_
              rintro e w' ⟨rfl, nr, rfl⟩
              go_wp2_with fail
              refine (signed_any _ _ _ (by omega)).mono ?_
              rintro e w' ⟨rfl, rfl⟩
              go_wp2_with (go_at_call 44; refine (sat32_any _ _).mono ?_; rintro e w' ⟨rfl, rfl⟩)
              go_roundw
              case rel => exact ⟨k + 1, by omega, by go_num, ⟨A2, _, _, rfl, by rw [Hmin.out]; exact HRe.out⟩, by rw [Hdc.out]; exact (hR.drew nr).step hlt _ (by rw [Hrv.out]; rfl)⟩
              case measure => simp [intOf]; omega
        · have hkk : k = q.length := by omega
          subst hkk
          go_wp2
          go_ret2
          exact ⟨_, rfl, by have := hR.row; rw [mix_full] at this; exact this, hR.below⟩
end Go.Proofs.YtojlgjdebokelabH
