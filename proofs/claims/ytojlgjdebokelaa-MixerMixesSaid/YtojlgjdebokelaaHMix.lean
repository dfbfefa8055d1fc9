/- What mixer.Mix answers: two lists, by shares; its closures and its loop walked. -/
import Derived.Test.YtojlgjdebokelaaHRound
import Derived.Test.YtojlgjdebokelaaHList
import Derived.Test.YtojlgjdebokelaaWMore
import Derived.OneCell
set_option linter.unusedVariables false
namespace Go.Proofs.YtojlgjdebokelaaH
open Go.RowKit Go.Proofs.YtojlgjdebokelaaW.PrintWords Go.Proofs.YtojlgjdebokelaaW.PrintMore

/-- The i-th number of a list, 0 beyond it. -/
def atv (l : List Int) (i : Int) : Int := if i < (l.length : Int) then rd l i else 0
theorem of1_any (B c : Nat) (A : Option Addr) (l : List Int) (i : Int) (w : World) (hb : w.heap[B]? = some (.cells #[.slice A l.length c] 31 (0, 0))) (hr : Kd.C (Kd.int .i16) w A l.length l) (h0 : 0 ≤ i) (hl : ∀ x ∈ l, -32768 ≤ x ∧ x ≤ 32767) :
    Calls Try.prog 74 #[.int .i64 i, .pointer (some ⟨B, 0, none⟩)] w fun e w' => e = .returned (.int .i64 (atv l i)) ∧ w = w' := by
  have hcell : w.cell? ⟨B, 0, none⟩ = some (.slice A l.length c) := by
    have := cell_of_row w B 0 #[.slice A l.length c] 31 (0, 0) hb
    simpa using this
  unfold atv
  by_cases h : i < (l.length : Int)
  · rw [if_pos h]
    obtain ⟨ad, rfl, hx⟩ := Kd.at_int hr i h0 (by simpa using h)
    have hbd := hl _ (rd_mem l i h0 h)
    go_enter Try.func74, Try.ntmps74
    go_wp2
    go_ret
    exact ⟨rfl, rfl⟩
  · rw [if_neg h]
    go_enter Try.func74, Try.ntmps74
    go_wp2
    go_ret
    exact ⟨rfl, rfl⟩
theorem of_any (A : Option Addr) (n c : Nat) (w : World) :
    Calls Try.prog 62 #[.slice A n c] w fun e w' => e = .returned (.func (.func 74) #[] #[.pointer (some ⟨w.heap.size, 0, none⟩)]) ∧ w.alloc (.cells #[.slice A n c] 31) = w' := by
  have hmf : ∀ (fn : Fn) (first cap : Array Value) (w : World), (Instr.makeFunc fn first cap).run Try.prog w = .ok (.func fn first cap) w := fun _ _ _ _ => rfl
  go_enter Try.func62, Try.ntmps62
  go_wp2
  go_ret
  exact ⟨rfl, rfl⟩
/-- A share of a sum, rounded. -/
def shr16 (n : Int) : Int := clamp (rnd n 15) (-32768) 32767
theorem shr16_bd (n : Int) : -32768 ≤ shr16 n ∧ shr16 n ≤ 32767 := clamp_in _ _ _ (by decide)
theorem share_any (n : Int) (w : World) (hn : -9223372036854775808 ≤ n ∧ n ≤ 9223372036854775807) :
    Calls Try.prog 63 #[.int .i64 n] w fun e w' => e = .returned (.int .i16 (shr16 n)) ∧ ∃ k, w' = w.drewN k := by
  unfold shr16
  go_enter Try.func63, Try.ntmps63
  go_wp2_with (first | (go_at_call 46; refine (fixround_any _ _ _ hn).mono ?_; rintro e w' ⟨rfl, nk, rfl⟩) | (go_at_call 73; refine (sat16_any _ _).mono ?_; rintro e w' ⟨rfl, rfl⟩))
  go_ret
  exact ⟨rfl, _, rfl⟩
theorem info22 : (Try.prog.info? 22).map (fun i => (i.zero, i.size, i.bytes)) = some (some (.int .i16 0), 1, 2) := by kernel_rfl
def mixv (a b : List Int) (x y j : Int) : Int := shr16 (atv a j * x + atv b j * y)
/-- What holds while a list of N numbers is filled, in block B: beside it lie two boxed slices. -/
structure Filling (N B : Nat) (f : Int → Int) (Aa : Option Addr) (na ca : Nat) (Ab : Option Addr) (nb cb : Nat) (w wr : World) (k : Nat) : Prop where
  row : Kd.R (Kd.int .i16) 22 wr B (fun _ => True) (.slice (some ⟨B, 0, none⟩) N N) (mix k N f)
  boxa : wr.heap[B + 1]? = some (.cells #[.slice Aa na ca] 31 (0, 0))
  boxb : wr.heap[B + 1 + 1]? = some (.cells #[.slice Ab nb cb] 31 (0, 0))
  below : Below B w wr
theorem alloc_size (w : World) (o : Obj) : (w.alloc o).heap.size = w.heap.size + 1 := by simp
theorem R_made (W : World) (base : Nat) (hb : base ≤ W.heap.size) (N : Nat) (hN : N ≤ 9223372036854775807) : Kd.R (Kd.int .i16) 22 (W.alloc (.cells (madeCells #[.int .i16 0] N) 22)) base (fun _ => True) (.slice (some ⟨W.heap.size, 0, none⟩) N N) (List.replicate N 0) := by
  have h := own_made W base 22 .i16 N hb hN
  refine Kd.R_of_own ?_ (fun _ _ => trivial)
  have : (List.replicate N (0 : Int)).length = N := by simp
  rw [this]
  exact h
theorem Filling.start (N : Nat) (hN : N ≤ 20000) (f : Int → Int) (Aa : Option Addr) (na ca : Nat) (Ab : Option Addr) (nb cb : Nat) (w : World) :
    Filling N w.heap.size f Aa na ca Ab nb cb w (((w.alloc (.cells (madeCells #[.int .i16 0] N) 22)).alloc (.cells #[.slice Aa na ca] 31)).alloc (.cells #[.slice Ab nb cb] 31)) 0 := by
  have h1 := R_made w w.heap.size (Nat.le_refl _) N (by omega)
  have b1 : Below w.heap.size w (w.alloc (.cells (madeCells #[.int .i16 0] N) 22)) := (Below.refl _ _).alloc (Nat.le_refl _) _
  refine ⟨?_, ?_, ?_, ?_⟩
  · rw [mix_zero]
    exact Kd.R_alloc (Kd.R_alloc h1 _) _
  · have := heap_alloc_new (w.alloc (.cells (madeCells #[.int .i16 0] N) 22)) (.cells #[.slice Aa na ca] 31)
    rw [alloc_size] at this
    exact (Below.heap_alloc _ _ _ (by simp)).trans this
  · have := heap_alloc_new ((w.alloc (.cells (madeCells #[.int .i16 0] N) 22)).alloc (.cells #[.slice Aa na ca] 31)) (.cells #[.slice Ab nb cb] 31)
    rw [alloc_size, alloc_size] at this
    exact this
  · exact (b1.alloc (by simp) _).alloc (by simp; omega) _
theorem Filling.cell {N B : Nat} {f : Int → Int} {Aa : Option Addr} {na ca : Nat} {Ab : Option Addr} {nb cb : Nat} {w wr : World} {k : Nat} (h : Filling N B f Aa na ca Ab nb cb w wr k) (hk : k < N) :
    (∃ u, wr.cell? ⟨B, k, none⟩ = some (.int .i16 u)) ∧ wr.frozen? ⟨B, k, none⟩ = false := by
  have := Kd.R_celln (0 : Int) h.row (k : Int) (by omega) (by omega)
  rw [Int.toNat_natCast] at this
  exact ⟨⟨_, this.1⟩, this.2⟩
theorem Filling.step {N B : Nat} {f : Int → Int} {Aa : Option Addr} {na ca : Nat} {Ab : Option Addr} {nb cb : Nat} {w wr : World} {k : Nat} (h : Filling N B f Aa na ca Ab nb cb w wr k) (hk : k < N) (n : Nat) (v : Int) (hv : v = f k) :
    Filling N B f Aa na ca Ab nb cb w ((wr.setCell ⟨B, k, none⟩ (.int .i16 v)).drewN n) (k + 1) := by
  refine ⟨?_, ?_, ?_, ?_⟩
  · have := Kd.R_putn (Kd.R_drewN h.row n) (k : Int) v
    rw [Int.toNat_natCast, mix_set k N f hk v hv] at this
    exact this
  · exact (Below.heap_setCell _ _ _ _ (by simp)).trans h.boxa
  · exact (Below.heap_setCell _ _ _ _ (by simp; omega)).trans h.boxb
  · exact pw_below_drewN (h.below.setCell (by simp) _) n
theorem atv_bd (l : List Int) (hl : ∀ x ∈ l, -32768 ≤ x ∧ x ≤ 32767) (i : Int) (h0 : 0 ≤ i) : -32768 ≤ atv l i ∧ atv l i ≤ 32767 := by
  unfold atv
  by_cases h : i < (l.length : Int)
  · rw [if_pos h]; exact hl _ (rd_mem l i h0 h)
  · rw [if_neg h]; omega
theorem mul16_bd {a b : Int} (ha : -32768 ≤ a ∧ a ≤ 32767) (hb : -32768 ≤ b ∧ b ≤ 32767) : -1073741824 ≤ a * b ∧ a * b ≤ 1073741824 := by
  have h1 : (a + 32768) * (b + 32768) ≥ 0 := Int.mul_nonneg (by omega) (by omega)
  have h2 : (32767 - a) * (32767 - b) ≥ 0 := Int.mul_nonneg (by omega) (by omega)
  have h3 : (a + 32768) * (32767 - b) ≥ 0 := Int.mul_nonneg (by omega) (by omega)
  have h4 : (32767 - a) * (b + 32768) ≥ 0 := Int.mul_nonneg (by omega) (by omega)
  simp only [Int.add_mul, Int.mul_add, Int.sub_mul, Int.mul_sub] at h1 h2 h3 h4
  have c1 : 32768 * b = b * 32768 := Int.mul_comm _ _
  have c2 : 32767 * b = b * 32767 := Int.mul_comm _ _
  omega
set_option maxRecDepth 100000 in
set_option maxHeartbeats 2000000 in
theorem mix_walk (N : Nat) (Aa Ab : Option Addr) (ca cb : Nat) (a b : List Int) (x y : Int) (w : World) (hra : Kd.C (Kd.int .i16) w Aa a.length a) (hca : a.length ≤ ca) (hrb : Kd.C (Kd.int .i16) w Ab b.length b) (hcb : b.length ≤ cb)
    (la : ∀ x ∈ a, -32768 ≤ x ∧ x ≤ 32767) (lb : ∀ x ∈ b, -32768 ≤ x ∧ x ≤ 32767) (hx : -32768 ≤ x ∧ x ≤ 32767) (hy : -32768 ≤ y ∧ y ≤ 32767) (na : a.length ≤ 20000) (nb : b.length ≤ 20000) (hN : ((a.length : Int) < b.length ∧ b.length = N) ∨ (¬ (a.length : Int) < b.length ∧ a.length = N)) :
    Calls Try.prog 41 #[.slice Aa a.length ca, .slice Ab b.length cb, .int .i16 x, .int .i16 y] w fun e w' => ∃ v : Value, e = .returned v ∧ Kd.R (Kd.int .i16) 22 w' w.heap.size (fun _ => True) v (tab N (mixv a b x y)) ∧ Below w.heap.size w w' := by
  have hmk := print_make 31 22 .i16 2 Try.underlying31 info22 (by decide) N (by omega)
  have hN1 : a.length ≤ N := by omega
  have hN2 : b.length ≤ N := by omega
  have hN3 : N ≤ 20000 := by omega
  have Hra := Lib.hid hra
  have Hrb := Lib.hid hrb
  have Hla := Lib.hid la
  have Hlb := Lib.hid lb
  clear hra hrb la lb
  rcases hN with ⟨hN, rfl⟩ | ⟨hN, rfl⟩
  · go_enter Try.func41, Try.ntmps41
    go_wp2_with (go_at_call 62; refine (of_any _ _ _ _).mono ?_; rintro e w' ⟨rfl, rfl⟩)
    go_loopw [25] (fun i wr => ∃ k : Nat, k ≤ b.length ∧ i = .int .i64 k ∧ Filling b.length w.heap.size (mixv a b x y) Aa a.length ca Ab b.length cb w wr k) (fun i _ => b.length - (intOf i).toNat)
    case atStart => exact ⟨0, by omega, rfl, Filling.start _ (by omega) _ _ _ _ _ _ _ _⟩
    case round =>
      obtain ⟨k, hk, rfl, hF⟩ := hrel
      by_cases hlt : k < b.length
      · obtain ⟨⟨u, hcell⟩, hfz⟩ := hF.cell hlt
        have pa := atv_bd a Hla.out k (by omega)
        have pb := atv_bd b Hlb.out k (by omega)
        have ma := mul16_bd pa hx
        have mb := mul16_bd pb hy
        go_wp2_with fail
        refine (of1_any _ _ _ a k wr hF.boxa (Kd.C_below Hra.out hF.below) (by omega) Hla.out).mono ?_
        rintro e w' ⟨rfl, rfl⟩
        go_wp2_with fail
        refine (of1_any _ _ _ b k wr hF.boxb (Kd.C_below Hrb.out hF.below) (by omega) Hlb.out).mono ?_
        rintro e w' ⟨rfl, rfl⟩
        go_wp2_with fail
        refine (share_any _ _ (by omega)).mono ?_
        rintro e w' ⟨rfl, nd, rfl⟩
        go_wp2
        go_roundw
        case rel => exact ⟨k + 1, by omega, by go_num, hF.step hlt nd _ rfl⟩
        case measure => simp [intOf]; omega
      · have hkk : k = b.length := by omega
        subst hkk
        go_wp2
        go_ret
        exact ⟨_, rfl, by have := hF.row; rw [mix_full] at this; exact this, hF.below⟩
  · go_enter Try.func41, Try.ntmps41
    go_wp2_with (go_at_call 62; refine (of_any _ _ _ _).mono ?_; rintro e w' ⟨rfl, rfl⟩)
    go_loopw [25] (fun i wr => ∃ k : Nat, k ≤ a.length ∧ i = .int .i64 k ∧ Filling a.length w.heap.size (mixv a b x y) Aa a.length ca Ab b.length cb w wr k) (fun i _ => a.length - (intOf i).toNat)
    case atStart => exact ⟨0, by omega, rfl, Filling.start _ (by omega) _ _ _ _ _ _ _ _⟩
    case round =>
      obtain ⟨k, hk, rfl, hF⟩ := hrel
      by_cases hlt : k < a.length
      · obtain ⟨⟨u, hcell⟩, hfz⟩ := hF.cell hlt
        have pa := atv_bd a Hla.out k (by omega)
        have pb := atv_bd b Hlb.out k (by omega)
        have ma := mul16_bd pa hx
        have mb := mul16_bd pb hy
        go_wp2_with fail
        refine (of1_any _ _ _ a k wr hF.boxa (Kd.C_below Hra.out hF.below) (by omega) Hla.out).mono ?_
        rintro e w' ⟨rfl, rfl⟩
        go_wp2_with fail
        refine (of1_any _ _ _ b k wr hF.boxb (Kd.C_below Hrb.out hF.below) (by omega) Hlb.out).mono ?_
        rintro e w' ⟨rfl, rfl⟩
        go_wp2_with fail
        refine (share_any _ _ (by omega)).mono ?_
        rintro e w' ⟨rfl, nd, rfl⟩
        go_wp2
        go_roundw
        case rel => exact ⟨k + 1, by omega, by go_num, hF.step hlt nd _ rfl⟩
        case measure => simp [intOf]; omega
      · have hkk : k = a.length := by omega
        subst hkk
        go_wp2
        go_ret
        exact ⟨_, rfl, by have := hF.row; rw [mix_full] at this; exact this, hF.below⟩
end Go.Proofs.YtojlgjdebokelaaH
