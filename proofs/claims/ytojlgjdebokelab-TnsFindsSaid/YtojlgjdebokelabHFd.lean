import Derived.Test.YtojlgjdebokelabHAl
import Derived.Deep.DrawnRows
import Derived.Deep.RegionLaw
import Derived.Deep.RegionWith
import Derived.Deep.DeepCutAuto
import Derived.Laws.StructEq
set_option linter.unusedVariables false
set_option linter.unusedSimpArgs false
namespace Go.Proofs.YtojlgjdebokelabH
open Go.RowKit Go.Proofs.YtojlgjdebokelabW.PrintWords Go.Proofs.YtojlgjdebokelabW.PrintMore Go.Proofs.YtojlgjdebokelabW
attribute [local go_sem ↓] Go.wp_at_zero Go.wp_at_succ
open Go.Proofs.Ytojlgjdebokelab.PLib4
theorem R_fixed {k : IntKind} {e base : Nat} {w : World} {v : Value} {xs : List Int} (h : Kd.R (Kd.int k) e w base (fun _ => True) v xs) (hne : 0 < xs.length) :
    ∃ g c, v = .slice (some ⟨g, 0, none⟩) xs.length c ∧ base ≤ g ∧ g < w.heap.size ∧ Kd.R (Kd.int k) e w base (fun k => k = g) (.slice (some ⟨g, 0, none⟩) xs.length c) xs := by
  obtain ⟨A, c, rfl, hc, hC⟩ := Kd.R_reads h
  obtain ⟨ad, rfl, _⟩ := hC.2.2 hne
  obtain ⟨g, rfl⟩ := Kd.R_head h
  refine ⟨g, c, rfl, Kd.R_base h g (by simp [Value.ownBlock]), Kd.R_lt h g (by simp [Value.ownBlock]), Kd.R_flat (fun h => h) h (fun k hk _ => ?_)⟩
  simpa [Value.ownBlock] using hk.symm
/-- What Find holds between its statements. -/
structure FdRel (B O H U V F cu cv : Nat) (w wr : World) (r : Nat → Int) (lu lv : List Int) (f : Nat → Int) : Prop where
  out : wr.heap[O]? = some (.cells (row5 0 0 0 0 0) 51 (0, 0))
  arr : wr.heap[H]? = some (.cells (rowg r) 105 (0, 0))
  fil : wr.heap[F]? = some (.cells (row5 1 (f 0) (f 1) (f 2) (f 3)) 51 (0, 0))
  ru : Kd.R (Kd.int .i64) 2 wr B (fun k => k = U) (.slice (some ⟨U, 0, none⟩) 4 cu) lu
  rv : Kd.R (Kd.int .i64) 2 wr B (fun k => k = V) (.slice (some ⟨V, 0, none⟩) 4 cv) lv
  ne : U ≠ V ∧ U ≠ F ∧ U ≠ O ∧ U ≠ H ∧ V ≠ F ∧ V ≠ O ∧ V ≠ H ∧ F ≠ O ∧ F ≠ H
  base : B ≤ O ∧ B ≤ U ∧ B ≤ V ∧ B ≤ F
  below : Below B w wr
section
variable {B O H U V F cu cv : Nat} {w wr : World} {r f : Nat → Int} {lu lv : List Int}
theorem FdRel.drew (h : FdRel B O H U V F cu cv w wr r lu lv f) (n : Nat) : FdRel B O H U V F cu cv w (wr.drewN n) r lu lv f :=
  ⟨blk_drewN h.out n, blk_drewN h.arr n, blk_drewN h.fil n, h.ru, h.rv, h.ne, h.base, pw_below_drewN h.below n⟩
theorem FdRel.drew1 (h : FdRel B O H U V F cu cv w wr r lu lv f) : FdRel B O H U V F cu cv w wr.drew r lu lv f :=
  ⟨blk_drew h.out, blk_drew h.arr, blk_drew h.fil, h.ru, h.rv, h.ne, h.base, pw_below_drewN h.below 1⟩
theorem FdRel.under (h : FdRel B O H U V F cu cv w wr r lu lv f) {w1 : World} (hb : Below wr.heap.size wr w1) : FdRel B O H U V F cu cv w w1 r lu lv f :=
  ⟨blk_below h.out hb, blk_below h.arr hb, blk_below h.fil hb, Kd.R_below h.ru hb, Kd.R_below h.rv hb, h.ne, h.base, below_then h.below (Nat.le_trans h.base.1 (Nat.le_of_lt (blk_lt h.out))) hb⟩
theorem FdRel.putU (h : FdRel B O H U V F cu cv w wr r lu lv f) (j : Nat) (x : Int) : FdRel B O H U V F cu cv w (wr.setCell ⟨U, j, none⟩ (.int .i64 x)) r (lu.set j x) lv f := by
  obtain ⟨h1, h2, h3, h4, h5, h6, h7, h8, h9⟩ := h.ne
  have hp := Kd.R_putn h.ru (j : Int) x
  rw [Int.toNat_natCast] at hp
  exact ⟨blk_far h.out (Ne.symm h3) _, blk_far h.arr (Ne.symm h4) _, blk_far h.fil (Ne.symm h2) _, hp, Kd.R_far h.rv (fun k hk => by subst hk; exact Ne.symm h1) _, h.ne, h.base, h.below.setCell h.base.2.1 _⟩
theorem FdRel.putV (h : FdRel B O H U V F cu cv w wr r lu lv f) (j : Nat) (x : Int) : FdRel B O H U V F cu cv w (wr.setCell ⟨V, j, none⟩ (.int .i64 x)) r lu (lv.set j x) f := by
  obtain ⟨h1, h2, h3, h4, h5, h6, h7, h8, h9⟩ := h.ne
  have hp := Kd.R_putn h.rv (j : Int) x
  rw [Int.toNat_natCast] at hp
  exact ⟨blk_far h.out (Ne.symm h6) _, blk_far h.arr (Ne.symm h7) _, blk_far h.fil (Ne.symm h5) _, Kd.R_far h.ru (fun k hk => by subst hk; exact h1) _, hp, h.ne, h.base, h.below.setCell h.base.2.2.1 _⟩
theorem fil_set (g : Nat → Int) (j : Nat) (v : Int) (h : j < 4) : (row5 1 (g 0) (g 1) (g 2) (g 3)).setIfInBounds (1 + j) (.int .i64 v) = row5 1 (upg g j v 0) (upg g j v 1) (upg g j v 2) (upg g j v 3) := by
  rcases j with _ | _ | _ | _ | j <;> first | rfl | omega
theorem FdRel.putF (h : FdRel B O H U V F cu cv w wr r lu lv f) (j : Nat) (x : Int) (hj : j < 4) : FdRel B O H U V F cu cv w (wr.setCell ⟨F, 1 + j, none⟩ (.int .i64 x)) r lu lv (upg f j x) := by
  obtain ⟨h1, h2, h3, h4, h5, h6, h7, h8, h9⟩ := h.ne
  exact ⟨blk_far h.out (Ne.symm h8) _, blk_far h.arr (Ne.symm h9) _, blk_put h.fil (1 + j) _ (fil_set f j x hj), Kd.R_far h.ru (fun k hk => by subst hk; exact h2) _, Kd.R_far h.rv (fun k hk => by subst hk; exact h5) _, h.ne, h.base, h.below.setCell h.base.2.2.2 _⟩
theorem FdRel.lenU (h : FdRel B O H U V F cu cv w wr r lu lv f) : lu.length = 4 := by
  obtain ⟨A, c, e, _⟩ := Kd.R_reads h.ru
  injection e with _ e _
  exact e.symm
theorem FdRel.lenV (h : FdRel B O H U V F cu cv w wr r lu lv f) : lv.length = 4 := by
  obtain ⟨A, c, e, _⟩ := Kd.R_reads h.rv
  injection e with _ e _
  exact e.symm
theorem FdRel.atU (h : FdRel B O H U V F cu cv w wr r lu lv f) (j : Nat) (hj : j < 4) : wr.cell? ⟨U, j, none⟩ = some (.int .i64 (rd lu j)) ∧ wr.frozen? ⟨U, j, none⟩ = false := by
  have := Kd.R_celln (0 : Int) h.ru (j : Int) (by omega) (by omega)
  rwa [Int.toNat_natCast] at this
theorem FdRel.atV (h : FdRel B O H U V F cu cv w wr r lu lv f) (j : Nat) (hj : j < 4) : wr.cell? ⟨V, j, none⟩ = some (.int .i64 (rd lv j)) ∧ wr.frozen? ⟨V, j, none⟩ = false := by
  have := Kd.R_celln (0 : Int) h.rv (j : Int) (by omega) (by omega)
  rwa [Int.toNat_natCast] at this
theorem FdRel.put (h : FdRel B O H U V F cu cv w wr r lu lv f) : B ≤ wr.heap.size := Nat.le_trans h.base.1 (Nat.le_of_lt (blk_lt h.out))
end
/-- The number of a step. -/
def fdK (lu lv : List Int) : Int := if rd lv 0 > 0 then clamp (wrap64 (Int.tdiv (wrap64 (wrap64 (-rd lu 0) * 32768)) (rd lv 0))) (-32767) 32767 else 0
theorem fdK_bd (lu lv : List Int) : -32767 ≤ fdK lu lv ∧ fdK lu lv ≤ 32767 := by
  unfold fdK
  split
  · exact clamp_in _ _ _ (by decide)
  · decide
def inU (k : Int) (n : Nat) (lu lv : List Int) : Nat → List Int × List Int
  | 0 => (lu, lv)
  | j + 1 => (if j + 1 < n then (inU k n lu lv j).1.set j (wrap64 (rd (inU k n lu lv j).1 ((j + 1 : Nat) : Int) + rnd (wrap64 (k * rd (inU k n lu lv j).2 ((j + 1 : Nat) : Int))) 15)) else (inU k n lu lv j).1,
      (inU k n lu lv j).2.set j (wrap64 (rd (inU k n lu lv j).2 (j : Int) + rnd (wrap64 (k * rd (inU k n lu lv j).1 (j : Int))) 15)))
structure FdS where
  u : List Int
  v : List Int
  f : Nat → Int
def fdS (r : Nat → Int) : Nat → FdS
  | 0 => ⟨[r 1, r 2, r 3, r 4], [r 0, r 1, r 2, r 3], fun _ => 0⟩
  | m + 1 => ⟨(inU (fdK (fdS r m).u (fdS r m).v) (4 - m) (fdS r m).u (fdS r m).v (4 - m)).1, (inU (fdK (fdS r m).u (fdS r m).v) (4 - m) (fdS r m).u (fdS r m).v (4 - m)).2, upg (fdS r m).f m (nearN (fdK (fdS r m).u (fdS r m).v) 17)⟩
def eight4 (f : Nat → Int) : Prop := f 0 = 8 ∧ f 1 = 8 ∧ f 2 = 8 ∧ f 3 = 8
instance (f : Nat → Int) : Decidable (eight4 f) := inferInstanceAs (Decidable (_ ∧ _))
def fdVal (r : Nat → Int) (s : FdS) : Value := if r 0 ≤ 0 ∨ wrap64 (2 * r 0) < wrap64 (3 * rd s.v 0) ∨ eight4 s.f then fval 0 0 0 0 0 else fval 1 (s.f 0) (s.f 1) (s.f 2) (s.f 3)
def fdV (r : Nat → Int) : Value := fdVal r (fdS r 4)
theorem five_put {w : World} {g : Nat} {t : TypeId} {a b c d e : Int} (h : w.heap[g]? = some (.cells (row5 a b c d e) t (0, 0))) (a' b' c' d' e' : Int) :
    (((((w.setCell ⟨g, 0, none⟩ (.int .i64 a')).setCell ⟨g, 1, none⟩ (.int .i64 b')).setCell ⟨g, 2, none⟩ (.int .i64 c')).setCell ⟨g, 3, none⟩ (.int .i64 d')).setCell ⟨g, 4, none⟩ (.int .i64 e')).heap[g]? = some (.cells (row5 a' b' c' d' e') t (0, 0)) :=
  blk_put (blk_put (blk_put (blk_put (blk_put h 0 _ rfl) 1 _ rfl) 2 _ rfl) 3 _ rfl) 4 _ rfl
theorem five_below {B : Nat} {w0 w : World} {g : Nat} (h : Below B w0 w) (hg : B ≤ g) (a' b' c' d' e' : Value) :
    Below B w0 (((((w.setCell ⟨g, 0, none⟩ a').setCell ⟨g, 1, none⟩ b').setCell ⟨g, 2, none⟩ c').setCell ⟨g, 3, none⟩ d').setCell ⟨g, 4, none⟩ e') :=
  ((((h.setCell hg _).setCell hg _).setCell hg _).setCell hg _).setCell hg _
def FdPost (w : World) (l : List Int) (e : Ending) (w' : World) : Prop := e = .returned (.tuple #[fdV (alk l), .int .i64 0]) ∧ Below w.heap.size w w'
theorem rowg_C {w : World} {H : Nat} {g : Nat → Int} (h : w.heap[H]? = some (.cells (rowg g) 105 (0, 0))) :
    Kd.C (Kd.int .i64) w (some ⟨H, 1, none⟩) [g 1, g 2, g 3, g 4].length [g 1, g 2, g 3, g 4] ∧ Kd.C (Kd.int .i64) w (some ⟨H, 0, none⟩) [g 0, g 1, g 2, g 3].length [g 0, g 1, g 2, g 3] := by
  have d0 : w.cell? ⟨H, 0, none⟩ = some (.int .i64 (g 0)) := blk_cell h 0
  have d1 : w.cell? ⟨H, 1, none⟩ = some (.int .i64 (g 1)) := blk_cell h 1
  have d2 : w.cell? ⟨H, 2, none⟩ = some (.int .i64 (g 2)) := blk_cell h 2
  have d3 : w.cell? ⟨H, 3, none⟩ = some (.int .i64 (g 3)) := blk_cell h 3
  have d4 : w.cell? ⟨H, 4, none⟩ = some (.int .i64 (g 4)) := blk_cell h 4
  refine ⟨Kd.C_of_reads (d := (0 : Int)) ⟨rfl, by simp, fun _ => ⟨_, rfl, fun j hj => ?_⟩⟩, Kd.C_of_reads (d := (0 : Int)) ⟨rfl, by simp, fun _ => ⟨_, rfl, fun j hj => ?_⟩⟩⟩
  all_goals
    have hj : j < 4 := hj
    have : j = 0 ∨ j = 1 ∨ j = 2 ∨ j = 3 := by omega
    rcases this with rfl | rfl | rfl | rfl <;> assumption
theorem i64_bd (n : Int) : -9223372036854775808 ≤ IntKind.i64.wrap n ∧ IntKind.i64.wrap n ≤ 9223372036854775807 := by
  rw [IntWalk.i64_left]; unfold wrap64; omega
theorem tyu49 : Try.prog.underlying 49 = some (.array 4 3) := by kernel_rfl
theorem tyu3 : Try.prog.underlying 3 = some (.int .i64) := by kernel_rfl
theorem eq_arr4 (a b c d a' b' c' d' : Int) (w : World) : (binOp BinOp.eql 49 (.agg #[.int .i64 a, .int .i64 b, .int .i64 c, .int .i64 d]) (.agg #[.int .i64 a', .int .i64 b', .int .i64 c', .int .i64 d'])).run Try.prog w = .ok (.bool (a == a' && (b == b' && (c == c' && d == d')))) w := by
  have h := tyu49
  have hu3 := tyu3
  have hs : ∀ w, (sizeOf 3).run Try.prog w = .ok 1 w := fun _ => by kernel_rfl
  have ha : ∀ w, (isAgg 3).run Try.prog w = .ok false w := fun _ => by kernel_rfl
  rw [run_eql_struct]
  show ((Op.equalIn (9999 + 1) 49 _ _).run Try.prog w).andThen _ = _
  unfold Op.equalIn
  simp only [Sem.run_bind, run_underlying h, Result.andThen_ok, hs]
  rw [Std.Legacy.Range.forIn_eq_forIn_range']
  have hr : List.range' ([:4] : Std.Legacy.Range).start ([:4] : Std.Legacy.Range).size ([:4] : Std.Legacy.Range).step = [0, 1, 2, 3] := by decide
  rw [hr]
  simp only [List.forIn_cons, List.forIn_nil, Sem.run_bind, part, ha, Result.andThen_ok]
  simp [run_equalIn_int w 9998 3 .i64 .i64 _ _ hu3, hs, ha, part]
  by_cases e1 : a = a' <;> by_cases e2 : b = b' <;> by_cases e3 : c = c' <;> by_cases e4 : d = d' <;> simp [e1, e2, e3, e4]
theorem clipq_any (n lo hi : Int) (w : World) : Calls Try.prog 62 #[.int .i64 n, .int .i64 lo, .int .i64 hi] w fun e w' => e = .returned (.int .i64 (clamp n lo hi)) ∧ ∃ k, w' = w.drewN k :=
  (clip_any n lo hi w).mono fun _ _ h => ⟨h.1, 0, h.2.symm⟩
set_option maxRecDepth 100000 in
set_option maxHeartbeats 4000000 in
theorem find_any (A : Option Addr) (c : Nat) (l : List Int) (w : World) (hr : Kd.C (Kd.int .i32) w A l.length l) (hl : l.length ≤ 120) (hx : ∀ x ∈ l, I32 x) :
    Calls Try.prog 21 #[.slice A l.length c] w (FdPost w l) := by
  have Hr := Lib.hid hr
  have Hx := Lib.hid hx
  clear hr hx
  have h120 : ¬ (120 : Int) < (l.length : Int) := by omega
  go_enter Try.func21, Try.ntmps21
  go_upto_region 4 with (go_at_call 60; refine (alike_any A c l _ (Kd.C_alloc Hr.out _) hl Hx.out).mono ?_; rintro e w1 ⟨rfl, hb1⟩; (replace hb1 := Lib.hid hb1))
  have hO : w1.heap[w.heap.size]? = some (.cells (row5 0 0 0 0 0) 51 (0, 0)) := (hb1.out.block _ (by simp)).trans (heap_alloc_new w _)
  unfold FdPost
  generalize hr0 : alk l = r
  have Hr0 := Lib.hid hr0
  clear hr0
  have hA : Hid ((w1.alloc (.cells (rowg r) 105)).heap[w1.heap.size]? = some (.cells (rowg r) 105 (0, 0))) := heap_alloc_new w1 _
  go_cut [5, 6] (fun s5 s6 wx => ∃ U V cu cv : Nat, s5 = .slice (some ⟨U, 0, none⟩) 4 cu ∧ s6 = .slice (some ⟨V, 0, none⟩) 4 cv ∧ w1.heap.size < U ∧ U < V ∧ wx.heap[w.heap.size]? = some (.cells (row5 0 0 0 0 0) 51 (0, 0)) ∧ wx.heap[w1.heap.size]? = some (.cells (rowg r) 105 (0, 0)) ∧ Kd.R (Kd.int .i64) 2 wx w.heap.size (fun k => k = U) (.slice (some ⟨U, 0, none⟩) 4 cu) [r 1, r 2, r 3, r 4] ∧ Kd.R (Kd.int .i64) 2 wx w.heap.size (fun k => k = V) (.slice (some ⟨V, 0, none⟩) 4 cv) [r 0, r 1, r 2, r 3] ∧ Below w.heap.size w wx)
  case first =>
    go_region_held3 (fun w' => True) (trivial) ((first
      | (go_at_call_of 61 (Value.slice (some ⟨w1.heap.size, 1, none⟩) 4 4); refine (clone64_any _ _ [r 1, r 2, r 3, r 4] _ (rowg_C (blk_drew hA.out)).1 (by simp)).mono ?_; rintro e w2 ⟨v1, rfl, hR1, hB1⟩)
      | (go_at_call_of 61 (Value.slice (some ⟨w1.heap.size, 0, none⟩) 4 5); refine (clone64_any _ _ [r 0, r 1, r 2, r 3] _ (rowg_C (blk_below (blk_drew hA.out) hB1)).2 (by simp)).mono ?_; rintro e w3 ⟨v2, rfl, hR2, hB2⟩)))
    go_wp2_with fail
    go_meet
    have hlt : w.heap.size < w1.heap.size := by have := blk_lt hO; have := hb1.out.size; simp at this; omega
    have hs2 : w1.heap.size + 1 ≤ w2.heap.size := by have := hB1.size; simpa using this
    have hs3 : w2.heap.size ≤ w3.heap.size := hB2.size
    obtain ⟨U, cu, rfl, hu1, hu2, hU⟩ := R_fixed hR1 (by simp)
    obtain ⟨V, cv, rfl, hv1, hv2, hV⟩ := R_fixed hR2 (by simp)
    have hu1' : w1.heap.size + 1 ≤ U := by simpa using hu1
    have hB3 : Below w.heap.size w w3 := below_then (below_then (below_then ((Below.refl _ _).alloc (Nat.le_refl _) _) (by simp) hb1.out |>.alloc (by omega) _ |> below_drew1) (by simp; omega) hB1) (by omega) hB2
    refine ⟨U, V, cu, cv, rfl, rfl, by omega, by omega, ?_, ?_, ?_, Kd.R_lower hV (by omega), hB3⟩
    · exact blk_below (blk_below (blk_drew (blk_alloc hO _)) hB1) hB2
    · exact blk_below (blk_below (blk_drew hA.out) hB1) hB2
    · exact Kd.R_below (Kd.R_lower hU (by simp; omega)) hB2
  case rest =>
    obtain ⟨U, V, cu, cv, rfl, rfl, hHU, hUV, h2, h4, h5, h6, h7⟩ := hcut
    have hlt : w.heap.size < w1.heap.size := by have := blk_lt hO; have := hb1.out.size; simp at this; omega
    have hVl : V < wc.heap.size := Kd.R_lt h6 V (by simp [Value.ownBlock])
    have hst : Hid (FdRel w.heap.size w.heap.size w1.heap.size U V wc.heap.size cu cv w (wc.alloc (.cells (row5 1 0 0 0 0) 51)) r [r 1, r 2, r 3, r 4] [r 0, r 1, r 2, r 3] (fun _ => 0)) :=
      ⟨blk_alloc h2 _, blk_alloc h4 _, heap_alloc_new wc _, Kd.R_below h5 ((Below.refl _ _).alloc (Nat.le_refl _) _), Kd.R_below h6 ((Below.refl _ _).alloc (Nat.le_refl _) _), ⟨by omega, by omega, by omega, by omega, by omega, by omega, by omega, by omega, by omega⟩, ⟨by omega, by omega, by omega, by omega⟩, h7.alloc (by omega) _⟩
    clear hO hA hb1 h2 h4 h5 h6 h7
    go_wp2
    generalize wc.heap.size = F at hst hVl ⊢
    go_loopg [5, 6, 23] 4 (fun gk s5 s6 s23 wr => ∃ m : Nat, m ≤ 4 ∧ gk = 4 - m ∧ s23 = .int .i64 m ∧ s5 = .slice (some ⟨U, 0, none⟩) (4 - m) cu ∧ s6 = .slice (some ⟨V, 0, none⟩) (max (4 - m) 1) cv ∧ ∃ lu lv f, Hid (fdS r m = ⟨lu, lv, f⟩) ∧ FdRel w.heap.size w.heap.size w1.heap.size U V F cu cv w wr r lu lv f)
    case atStart => exact ⟨0, by omega, rfl, rfl, rfl, rfl, _, _, _, rfl, hst⟩
    case round =>
      clear hst
      obtain ⟨m, hm, rfl, rfl, rfl, rfl, lu, lv, f, hS, hM⟩ := hrel
      by_cases hm4 : m < 4
      · obtain ⟨n, hn⟩ : ∃ n, 4 - m = n := ⟨_, rfl⟩
        have hmax : max (4 - m) 1 = n := by omega
        rw [hmax, hn]
        have hn1 : 1 ≤ n := by omega
        have hn4 : n ≤ 4 := by omega
        have Hn := Lib.hid hn
        clear hn hmax
        have hm4' : (m : Int) < 4 := by omega
        have hn1' : (0 : Int) < (n : Int) := by omega
        have v0 : wr.cell? ⟨V, 0, none⟩ = some (.int .i64 (rd lv 0)) := (hM.atV 0 (by omega)).1
        have u0 : wr.cell? ⟨U, 0, none⟩ = some (.int .i64 (rd lu 0)) := (hM.atU 0 (by omega)).1
        go_upto_if 29 with fail
        go_cut [9] (fun s9 wx => s9 = .int .i64 (fdK lu lv) ∧ FdRel w.heap.size w.heap.size w1.heap.size U V F cu cv w wx r lu lv f)
        case first =>
          have hM' := Lib.hid hM
          clear hM
          by_cases hv : rd lv 0 > 0
          · have hk : Hid (fdK lu lv = clamp (wrap64 (Int.tdiv (wrap64 (wrap64 (-rd lu 0) * 32768)) (rd lv 0))) (-32767) 32767) := by show _ = _; unfold fdK; rw [if_pos hv]
            have hv2 : decide (rd lv 0 > 0) = true := by simpa using hv
            generalize rd lv 0 = y at *
            generalize rd lu 0 = x at *
            go_wp2_with fail
            go_quiet ((go_at_call 62; exact Calls.quiet_of (clipq_any _ _ _ _)))
            go_wp2
            go_meet
            exact ⟨by rw [hk.out], hM'.out.drew _⟩
          · have hk : Hid (fdK lu lv = 0) := by show _ = _; unfold fdK; rw [if_neg hv]
            have hv2 : decide (rd lv 0 > 0) = false := by simpa using hv
            generalize rd lv 0 = y at *
            go_wp2
            go_meet
            exact ⟨by rw [hk.out], hM'.out⟩
        case rest =>
          obtain ⟨rfl, hM2⟩ := hcut
          clear hM v0 u0
          have hkb := fdK_bd lu lv
          have Hk : Hid (fdK lu lv = fdK lu lv) := rfl
          generalize hke : fdK lu lv = k at hkb Hk
          have Hke := Lib.hid hke
          clear hke Hk
          have hm0' : (0 : Int) ≤ (m : Int) := by omega
          have hm5 : (m : Int) + 1 ≤ 4 := by omega
          have hM2' := Lib.hid hM2
          clear hM2
          go_wp2_with (go_at_call 63; refine (nearest_any k _ hkb).mono ?_; rintro e w2 ⟨rfl, hb2⟩; (replace hM2' := hM2'.out.under hb2); clear hb2; (have f0 : w2.cell? ⟨F, 1 + m, none⟩ = some (.int .i64 (f m)) := by (have := blk_cell hM2'.fil (1 + m); rw [this]; (obtain rfl | rfl | rfl | rfl : m = 0 ∨ m = 1 ∨ m = 2 ∨ m = 3 := by omega) <;> rfl)); (have g0 := blk_frozen hM2'.fil (1 + m)); (replace hM2' := Lib.hid (hM2'.putF m (nearN k 17) hm4)))
          clear f0 g0
          go_loopg [10, 11, 47] n (fun gk s10 s11 s47 wi => ∃ j : Nat, j ≤ n ∧ gk = n - j ∧ s47 = .int .i64 j ∧ ∃ lu2 lv2, Hid (inU k n lu lv j = (lu2, lv2)) ∧ FdRel w.heap.size w.heap.size w1.heap.size U V F cu cv w wi r lu2 lv2 (upg f m (nearN k 17)))
          case atStart => exact ⟨0, by omega, rfl, rfl, _, _, rfl, hM2'.out⟩
          case round =>
            clear hM2'
            obtain ⟨j, hj, rfl, rfl, lu2, lv2, hI, hM⟩ := hrel
            by_cases hjn : j < n
            · have hjn' : (j : Int) < (n : Int) := by omega
              have hj0' : (0 : Int) ≤ (j : Int) := by omega
              have hn4' : (n : Int) ≤ 4 := by omega
              have hI1 : Hid ((inU k n lu lv (j + 1)).1 = if j + 1 < n then lu2.set j (wrap64 (rd lu2 ((j + 1 : Nat) : Int) + rnd (wrap64 (k * rd lv2 ((j + 1 : Nat) : Int))) 15)) else lu2) := by
                show _ = _
                simp only [inU, hI.out]
              have hI2 : Hid ((inU k n lu lv (j + 1)).2 = lv2.set j (wrap64 (rd lv2 (j : Int) + rnd (wrap64 (k * rd lu2 (j : Int))) 15))) := by
                show _ = _
                simp only [inU, hI.out]
              have u0 : wr.cell? ⟨U, j, none⟩ = some (.int .i64 (rd lu2 j)) := (hM.atU j (by omega)).1
              have gu0 := (hM.atU j (by omega)).2
              have hcut0 := Lib.hid hM
              clear hM
              by_cases hlast : j + 1 < n
              · have hl1 : (j : Int) + 1 < (n : Int) := by omega
                have u1 : wr.cell? ⟨U, j + 1, none⟩ = some (.int .i64 (rd lu2 ((j + 1 : Nat) : Int))) := (hcut0.out.atU (j + 1) (by omega)).1
                have v1 : wr.cell? ⟨V, j + 1, none⟩ = some (.int .i64 (rd lv2 ((j + 1 : Nat) : Int))) := (hcut0.out.atV (j + 1) (by omega)).1
                have hI1 : Hid ((inU k n lu lv (j + 1)).1 = lu2.set j (wrap64 (rd lu2 ((j + 1 : Nat) : Int) + rnd (wrap64 (k * rd lv2 ((j + 1 : Nat) : Int))) 15))) := by
                  show _ = _
                  rw [hI1.out, if_pos hlast]
                generalize rd lu2 ((j + 1 : Nat) : Int) = x1 at u1 hI1
                generalize rd lv2 ((j + 1 : Nat) : Int) = y1 at v1 hI1
                generalize rd lu2 (j : Int) = x0 at u0 hI2
                have hw1 : IntKind.i64.wrap ((j : Int) + 1) = (j : Int) + 1 := IntWalk.i64_in _ (by omega)
                have ht1 : ((j : Int) + 1).toNat = j + 1 := by omega
                have hj1' : (0 : Int) ≤ (j : Int) + 1 := by omega
                go_wp2_with fail
                go_region_held3 (fun w' => w'.cell? ⟨U, j + 1, none⟩ = some (.int .i64 x1) ∧ w'.cell? ⟨V, j + 1, none⟩ = some (.int .i64 y1)) (first | exact hHeld | exact ⟨u1, v1⟩ | exact ⟨(World.cell?_setCell_other _ _ _ _ (by simp)).trans (by assumption), (World.cell?_setCell_other _ _ _ _ (by simp)).trans (by assumption)⟩) ((go_at_call 46; refine (fixround_any _ _ _ (i64_bd _)).mono ?_; rintro e w3 ⟨rfl, nm, rfl⟩))
                have hM3 := Lib.hid ((hcut0.out.drew (1 + nm)).putU j (wrap64 (x1 + rnd (wrap64 (k * y1)) 15)))
                rw [← hI1.out] at hM3
                clear u0 u1 v1 gu0 hcut0 hw1 ht1
                simp only [IntWalk.i64_left]
                generalize (wr.drewN (1 + nm)).setCell ⟨U, j, none⟩ (.int .i64 (wrap64 (x1 + rnd (wrap64 (k * y1)) 15))) = W at hM3 ⊢
                have v0 : W.cell? ⟨V, j, none⟩ = some (.int .i64 (rd lv2 j)) := (hM3.out.atV j (by omega)).1
                have gv0 := (hM3.out.atV j (by omega)).2
                generalize rd lv2 (j : Int) = y0 at v0 hI2
                go_wp2_with fail
                go_region_with ((go_at_call 46; refine (fixround_any _ _ _ (i64_bd _)).mono ?_; rintro e w3 ⟨rfl, nm, rfl⟩))
                all_goals
                  have hM4 := Lib.hid ((hM3.out.drew (1 + nm)).putV j (wrap64 (y0 + rnd (wrap64 (k * x0)) 15)))
                  rw [← hI2.out] at hM4
                  clear v0 gv0 hM3
                  go_wp2
                  go_roundg (n - (j + 1))
                  case measure => omega
                  case rel => exact ⟨j + 1, hjn, rfl, by push_cast; rfl, _, _, rfl, hM4.out⟩
              · have hl1 : ¬ (j : Int) + 1 < (n : Int) := by omega
                have hI1 : Hid ((inU k n lu lv (j + 1)).1 = lu2) := by
                  show _ = _
                  rw [hI1.out, if_neg hlast]
                have hM3 := hcut0
                rw [← hI1.out] at hM3
                generalize rd lu2 (j : Int) = x0 at u0 hI2
                have v0 : wr.cell? ⟨V, j, none⟩ = some (.int .i64 (rd lv2 j)) := (hM3.out.atV j (by omega)).1
                have gv0 := (hM3.out.atV j (by omega)).2
                generalize rd lv2 (j : Int) = y0 at v0 hI2
                clear hcut0
                go_wp2_with fail
                go_region_with ((go_at_call 46; refine (fixround_any _ _ _ (i64_bd _)).mono ?_; rintro e w3 ⟨rfl, nm, rfl⟩))
                all_goals
                  have hM4 := Lib.hid ((hM3.out.drew (1 + nm)).putV j (wrap64 (y0 + rnd (wrap64 (k * x0)) 15)))
                  rw [← hI2.out] at hM4
                  clear v0 gv0 hM3 u0 gu0
                  go_wp2
                  go_roundg (n - (j + 1))
                  case measure => omega
                  case rel => exact ⟨j + 1, hjn, rfl, by push_cast; rfl, _, _, rfl, hM4.out⟩
            · obtain rfl : j = n := by omega
              have hcu : (4 : Int) ≤ (cu : Int) := by
                obtain ⟨_, c', e, h, _⟩ := Kd.R_reads hM.ru
                injection e with _ e1 e2
                omega
              have hcv : (4 : Int) ≤ (cv : Int) := by
                obtain ⟨_, c', e, h, _⟩ := Kd.R_reads hM.rv
                injection e with _ e1 e2
                omega
              have hS2 : Hid (fdS r (m + 1) = ⟨lu2, lv2, upg f m (nearN k 17)⟩) := by
                show _ = _
                have e1 : (fdS r m).u = lu := by rw [hS.out]
                have e2 : (fdS r m).v = lv := by rw [hS.out]
                have e3 : (fdS r m).f = f := by rw [hS.out]
                unfold fdS
                rw [e1, e2, e3, Hke.out, Hn.out, hI.out]
              have hM3 := Lib.hid hM
              clear hM hI
              obtain ⟨rfl, rfl⟩ | ⟨rfl, rfl⟩ | ⟨rfl, rfl⟩ | ⟨rfl, rfl⟩ : (j = 1 ∧ m = 3) ∨ (j = 2 ∧ m = 2) ∨ (j = 3 ∧ m = 1) ∨ (j = 4 ∧ m = 0) := by have := Hn.out; omega
              all_goals
                have hcu1 : (1 : Int) ≤ (cu : Int) := by omega
                have hcu2 : (2 : Int) ≤ (cu : Int) := by omega
                have hcu3 : (3 : Int) ≤ (cu : Int) := by omega
                have hcv1 : (1 : Int) ≤ (cv : Int) := by omega
                have hcv2 : (2 : Int) ≤ (cv : Int) := by omega
                have hcv3 : (3 : Int) ≤ (cv : Int) := by omega
                go_wp2
              all_goals go_quiet (fail)
              · go_wp2
                go_roundg 0
                case measure => omega
                case rel => exact ⟨4, by omega, rfl, rfl, rfl, rfl, _, _, _, hS2, hM3.out.drew _⟩
              · go_wp2
                go_roundg 1
                case measure => omega
                case rel => exact ⟨3, by omega, rfl, rfl, rfl, rfl, _, _, _, hS2, hM3.out.drew _⟩
              · go_wp2
                go_roundg 2
                case measure => omega
                case rel => exact ⟨2, by omega, rfl, rfl, rfl, rfl, _, _, _, hS2, hM3.out.drew _⟩
              · go_wp2
                go_roundg 3
                case measure => omega
                case rel => exact ⟨1, by omega, rfl, rfl, rfl, rfl, _, _, _, hS2, hM3.out.drew _⟩
      · obtain rfl : m = 4 := by omega
        have hM3 := Lib.hid hM
        have v0 : wr.cell? ⟨V, 0, none⟩ = some (.int .i64 (rd lv 0)) := (hM.atV 0 (by omega)).1
        have r0 : wr.cell? ⟨w1.heap.size, 0, none⟩ = some (.int .i64 (r 0)) := blk_cell hM.arr 0
        have f0 : wr.cell? ⟨F, 0, none⟩ = some (.int .i64 1) := blk_cell hM.fil 0
        have f1 : wr.cell? ⟨F, 1, none⟩ = some (.int .i64 (f 0)) := blk_cell hM.fil 1
        have f2 : wr.cell? ⟨F, 2, none⟩ = some (.int .i64 (f 1)) := blk_cell hM.fil 2
        have f3 : wr.cell? ⟨F, 3, none⟩ = some (.int .i64 (f 2)) := blk_cell hM.fil 3
        have f4 : wr.cell? ⟨F, 4, none⟩ = some (.int .i64 (f 3)) := blk_cell hM.fil 4
        have hq : ∀ w, (binOp BinOp.eql 49 (.agg #[.int .i64 (f 0), .int .i64 (f 1), .int .i64 (f 2), .int .i64 (f 3)]) (.agg #[.int .i64 8, .int .i64 8, .int .i64 8, .int .i64 8])).run Try.prog w = .ok (.bool (decide (eight4 f))) w := by
          intro w
          rw [eq_arr4]
          congr 2
          unfold eight4
          by_cases e1 : f 0 = 8 <;> by_cases e2 : f 1 = 8 <;> by_cases e3 : f 2 = 8 <;> by_cases e4 : f 3 = 8 <;> simp [e1, e2, e3, e4]
        have o0 : wr.cell? ⟨w.heap.size, 0, none⟩ = some (.int .i64 0) := blk_cell hM.out 0
        have o1 : wr.cell? ⟨w.heap.size, 1, none⟩ = some (.int .i64 0) := blk_cell hM.out 1
        have o2 : wr.cell? ⟨w.heap.size, 2, none⟩ = some (.int .i64 0) := blk_cell hM.out 2
        have o3 : wr.cell? ⟨w.heap.size, 3, none⟩ = some (.int .i64 0) := blk_cell hM.out 3
        have o4 : wr.cell? ⟨w.heap.size, 4, none⟩ = some (.int .i64 0) := blk_cell hM.out 4
        have of := blk_frozen hM.out
        clear hM
        have hlast : Hid (fdV r = fdVal r ⟨lu, lv, f⟩) := by
          show _ = _
          unfold fdV
          rw [hS.out]
        clear hS
        unfold fdVal at hlast
        dsimp only at hlast
        by_cases c1 : r 0 ≤ 0
        · rw [if_pos (.inl c1)] at hlast
          have d1 : decide (r 0 ≤ 0) = true := by simpa using c1
          go_wp2_with fail
          go_quiet (fail)
          go_wp2
          refine bodyPost_ret (v := .tuple #[fval 0 0 0 0 0, .int .i64 0]) (results_list (rs := [.cell 2 51, .tmp 3]) rfl (by simp) (.cell w.heap.size 51 _ (0, 0) _ rfl (five_put (blk_drewN hM3.out.out nq) _ _ _ _ _) Try.underlying51 rfl (by kernel_rfl) (.tmp .nil))) rfl ⟨by rw [Hr0.out, hlast.out], five_below (hM3.out.drew nq).below (Nat.le_refl _) _ _ _ _ _⟩
        · have d1 : decide (r 0 ≤ 0) = false := by simpa using c1
          by_cases c2 : wrap64 (2 * r 0) < wrap64 (3 * rd lv 0)
          · rw [if_pos (.inr (.inl c2))] at hlast
            have d2 : decide (wrap64 (2 * r 0) < wrap64 (3 * rd lv 0)) = true := by simpa using c2
            go_wp2_with fail
            go_quiet (fail)
            go_wp2
            refine bodyPost_ret (v := .tuple #[fval 0 0 0 0 0, .int .i64 0]) (results_list (rs := [.cell 2 51, .tmp 3]) rfl (by simp) (.cell w.heap.size 51 _ (0, 0) _ rfl (five_put (blk_drewN hM3.out.out nq) _ _ _ _ _) Try.underlying51 rfl (by kernel_rfl) (.tmp .nil))) rfl ⟨by rw [Hr0.out, hlast.out], five_below (hM3.out.drew nq).below (Nat.le_refl _) _ _ _ _ _⟩
          · have d2 : decide (wrap64 (2 * r 0) < wrap64 (3 * rd lv 0)) = false := by simpa using c2
            by_cases c3 : eight4 f
            · rw [if_pos (.inr (.inr c3))] at hlast
              have d3 : decide (eight4 f) = true := by simpa using c3
              go_wp2_with fail
              go_quiet (fail)
              go_wp2
              refine bodyPost_ret (v := .tuple #[fval 0 0 0 0 0, .int .i64 0]) (results_list (rs := [.cell 2 51, .tmp 3]) rfl (by simp) (.cell w.heap.size 51 _ (0, 0) _ rfl (five_put (blk_drewN hM3.out.out nq) _ _ _ _ _) Try.underlying51 rfl (by kernel_rfl) (.tmp .nil))) rfl ⟨by rw [Hr0.out, hlast.out], five_below (hM3.out.drew nq).below (Nat.le_refl _) _ _ _ _ _⟩
            · rw [if_neg (by rintro (h | h | h) <;> contradiction)] at hlast
              have d3 : decide (eight4 f) = false := by simpa using c3
              go_wp2_with fail
              go_quiet (fail)
              go_wp2
              refine bodyPost_ret (v := .tuple #[fval 1 (f 0) (f 1) (f 2) (f 3), .int .i64 0]) (results_list (rs := [.cell 2 51, .tmp 3]) rfl (by simp) (.cell w.heap.size 51 _ (0, 0) _ rfl (five_put (blk_drewN hM3.out.out nq) _ _ _ _ _) Try.underlying51 rfl (by kernel_rfl) (.tmp .nil))) rfl ⟨by rw [Hr0.out, hlast.out], five_below (hM3.out.drew nq).below (Nat.le_refl _) _ _ _ _ _⟩
end Go.Proofs.YtojlgjdebokelabH
