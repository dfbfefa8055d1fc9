import Derived.Test.YtojlgjdebokelabHRc
import Derived.Deep.DrawnRows
set_option linter.unusedVariables false
set_option linter.unusedSimpArgs false
namespace Go.Proofs.YtojlgjdebokelabH
open Go.RowKit Go.Proofs.YtojlgjdebokelabW.PrintWords Go.Proofs.YtojlgjdebokelabW.PrintMore Go.Proofs.YtojlgjdebokelabW
open Go.Proofs.Ytojlgjdebokelab.PLib4
theorem w64_32 {x : Int} (h : I32 x) : wrap64 x = x := by unfold I32 at h; unfold wrap64; omega
theorem rpart_any (i : Int) (w : World) (h0 : 0 ≤ i) (h1 : i ≤ 16) :
    Calls Try.prog 37 #[.int .i64 i] w fun e w' => e = .returned (.int .i64 (pv i)) ∧ ∃ n, w' = w.drewN n := by
  have hw : wrap64 (i - 8) = i - 8 := by unfold wrap64; omega
  refine (psalteryref17_Part.calls i (pv i) w ?_).mono fun e w' h => ⟨h.1, h.2.out⟩
  have hb := pv_bd i
  unfold psalteryref17_Part.f
  rw [hw]
  have : psalteryref03_Of.f (i - 8) 34 = some (pv i) := rfl
  rw [this, Option.bind_some, w64_32 (by unfold I16 at hb; unfold I32; omega)]
theorem rmul_any (a k : Int) (w : World) (ha : I32 a) (hk : I16 k) :
    Calls Try.prog 81 #[.int .i64 a, .int .i64 k] w fun e w' => e = .returned (.int .i64 (mulv a k)) ∧ ∃ n, w' = w.drewN n := by
  have hb := mul_bd ha hk
  refine (psalteryref17_mul.calls a k (mulv a k) w ?_).mono fun e w' h => ⟨h.1, h.2.out⟩
  unfold psalteryref17_mul.f
  rw [show wrap64 (a * k) = a * k by unfold wrap64; omega]
  unfold psalteryref01_Round.f
  rw [if_pos (by omega), if_pos (by omega)]
  rfl
theorem radd_any (a b : Int) (w : World) (ha : I32 a) (hb : -2147483648 ≤ b ∧ b ≤ 2147483648) :
    Calls Try.prog 80 #[.int .i64 a, .int .i64 b] w fun e w' => e = .returned (.int .i64 (addv a b)) ∧ ∃ n, w' = w.drewN n := by
  refine (psalteryref17_add.calls a b (addv a b) w ?_).mono fun e w' h => ⟨h.1, h.2.out⟩
  unfold psalteryref17_add.f
  unfold I32 at ha
  rw [show wrap64 (a + b) = a + b by unfold wrap64; omega]
  rfl
abbrev row4 (a b c d : Int) : Array Value := #[.int .i64 a, .int .i64 b, .int .i64 c, .int .i64 d]
abbrev row5 (a b c d e : Int) : Array Value := #[.int .i64 a, .int .i64 b, .int .i64 c, .int .i64 d, .int .i64 e]

structure RS (B : Nat) (w wr : World) (on i0 i1 i2 i3 s0 s1 s2 s3 : Int) (v : Value) (ys : List Int) : Prop where
  fil : wr.heap[B]? = some (.cells (row5 on i0 i1 i2 i3) 54 (0, 0))
  sts : wr.heap[B + 1]? = some (.cells (row4 s0 s1 s2 s3) 132 (0, 0))
  row : Kd.R (Kd.int .i32) 21 wr B (fun _ => True) v ys
  below : Below B w wr
theorem RS.size {B : Nat} {w wr : World} {on i0 i1 i2 i3 s0 s1 s2 s3 : Int} {v : Value} {ys : List Int} (h : RS B w wr on i0 i1 i2 i3 s0 s1 s2 s3 v ys) : B + 1 < wr.heap.size := blk_lt h.sts
theorem RS.drew {B : Nat} {w wr : World} {on i0 i1 i2 i3 s0 s1 s2 s3 : Int} {v : Value} {ys : List Int} (h : RS B w wr on i0 i1 i2 i3 s0 s1 s2 s3 v ys) (n : Nat) : RS B w (wr.drewN n) on i0 i1 i2 i3 s0 s1 s2 s3 v ys :=
  ⟨h.fil, h.sts, Kd.R_drewN h.row n, pw_below_drewN h.below n⟩
theorem RS.alloc {B : Nat} {w wr : World} {on i0 i1 i2 i3 s0 s1 s2 s3 : Int} {v : Value} {ys : List Int} (h : RS B w wr on i0 i1 i2 i3 s0 s1 s2 s3 v ys) (o : Obj) : RS B w (wr.alloc o) on i0 i1 i2 i3 s0 s1 s2 s3 v ys :=
  ⟨blk_alloc h.fil o, blk_alloc h.sts o, Kd.R_alloc h.row o, h.below.alloc (by have := h.size; omega) o⟩
theorem RS.far {B : Nat} {w wr : World} {on i0 i1 i2 i3 s0 s1 s2 s3 : Int} {v : Value} {ys : List Int} (h : RS B w wr on i0 i1 i2 i3 s0 s1 s2 s3 v ys) {H : Nat} {cs : Array Value} (hb : wr.heap[H]? = some (.cells cs 105 (0, 0))) (hB : B ≤ H) (j : Nat) (u : Value) : RS B w (wr.setCell ⟨H, j, none⟩ u) on i0 i1 i2 i3 s0 s1 s2 s3 v ys :=
  ⟨blk_far h.fil (blk_ne h.fil hb (by decide)) u, blk_far h.sts (blk_ne h.sts hb (by decide)) u, Kd.R_set h.row hb (by simp [Kd.int, Kd.scalar]) j u, h.below.setCell hB u⟩
theorem RS.front {B : Nat} {w wr : World} {on i0 i1 i2 i3 s0 s1 s2 s3 : Int} {v : Value} {ys : List Int} (h : RS B w wr on i0 i1 i2 i3 s0 s1 s2 s3 v ys) {H : Nat} {cs : Array Value} (hb : wr.heap[H]? = some (.cells cs 105 (0, 0))) {w1 : World} (hg : wr.grownBy w1 v.ownBlock) : w1.heap[H]? = some (.cells cs 105 (0, 0)) := by
  obtain ⟨inner, hown, _⟩ := h.row.2
  exact blk_grown hb hg (own_ne hown hb (by decide))
theorem RS.push {B : Nat} {w wr : World} {on i0 i1 i2 i3 s0 s1 s2 s3 : Int} {v : Value} {ys : List Int} (h : RS B w wr on i0 i1 i2 i3 s0 s1 s2 s3 v ys) {w1 : World} {v1 : Value} {zs : List Int} (hg : wr.grownBy w1 v.ownBlock) (hr : Kd.R (Kd.int .i32) 21 w1 B (fun _ => True) v1 zs) (hb : Below B w w1) : RS B w w1 on i0 i1 i2 i3 s0 s1 s2 s3 v1 zs := by
  obtain ⟨inner, hown, _⟩ := h.row.2
  exact ⟨blk_grown h.fil hg (own_ne hown h.fil (by decide)), blk_grown h.sts hg (own_ne hown h.sts (by decide)), hr, hb⟩
theorem RS.set0 {B : Nat} {w wr : World} {on i0 i1 i2 i3 s0 s1 s2 s3 : Int} {v : Value} {ys : List Int} (h : RS B w wr on i0 i1 i2 i3 s0 s1 s2 s3 v ys) (x : Int) : RS B w (wr.setCell ⟨B + 1, 0, none⟩ (.int .i64 x)) on i0 i1 i2 i3 x s1 s2 s3 v ys :=
  ⟨blk_far h.fil (by show B ≠ B + 1; omega) _, by have := blk_set h.sts 0 (.int .i64 x); simpa using this, Kd.R_set h.row h.sts (by simp [Kd.int, Kd.scalar]) 0 _, h.below.setCell (by show B ≤ B + 1; omega) _⟩
theorem RS.set1 {B : Nat} {w wr : World} {on i0 i1 i2 i3 s0 s1 s2 s3 : Int} {v : Value} {ys : List Int} (h : RS B w wr on i0 i1 i2 i3 s0 s1 s2 s3 v ys) (x : Int) : RS B w (wr.setCell ⟨B + 1, 1, none⟩ (.int .i64 x)) on i0 i1 i2 i3 s0 x s2 s3 v ys :=
  ⟨blk_far h.fil (by show B ≠ B + 1; omega) _, by have := blk_set h.sts 1 (.int .i64 x); simpa using this, Kd.R_set h.row h.sts (by simp [Kd.int, Kd.scalar]) 1 _, h.below.setCell (by show B ≤ B + 1; omega) _⟩
theorem RS.set2 {B : Nat} {w wr : World} {on i0 i1 i2 i3 s0 s1 s2 s3 : Int} {v : Value} {ys : List Int} (h : RS B w wr on i0 i1 i2 i3 s0 s1 s2 s3 v ys) (x : Int) : RS B w (wr.setCell ⟨B + 1, 2, none⟩ (.int .i64 x)) on i0 i1 i2 i3 s0 s1 x s3 v ys :=
  ⟨blk_far h.fil (by show B ≠ B + 1; omega) _, by have := blk_set h.sts 2 (.int .i64 x); simpa using this, Kd.R_set h.row h.sts (by simp [Kd.int, Kd.scalar]) 2 _, h.below.setCell (by show B ≤ B + 1; omega) _⟩
theorem RS.set3 {B : Nat} {w wr : World} {on i0 i1 i2 i3 s0 s1 s2 s3 : Int} {v : Value} {ys : List Int} (h : RS B w wr on i0 i1 i2 i3 s0 s1 s2 s3 v ys) (x : Int) : RS B w (wr.setCell ⟨B + 1, 3, none⟩ (.int .i64 x)) on i0 i1 i2 i3 s0 s1 s2 x v ys :=
  ⟨blk_far h.fil (by show B ≠ B + 1; omega) _, by have := blk_set h.sts 3 (.int .i64 x); simpa using this, Kd.R_set h.row h.sts (by simp [Kd.int, Kd.scalar]) 3 _, h.below.setCell (by show B ≤ B + 1; omega) _⟩

structure R1 (B H : Nat) (w wr : World) (on i0 i1 i2 i3 s0 s1 s2 s3 f0 f1 f2 f3 f4 : Int) (v : Value) (ys : List Int) : Prop where
  rs : RS B w wr on i0 i1 i2 i3 s0 s1 s2 s3 v ys
  fb : wr.heap[H]? = some (.cells (row5 f0 f1 f2 f3 f4) 105 (0, 0))
  hH : B ≤ H
structure R2 (B H K : Nat) (w wr : World) (on i0 i1 i2 i3 s0 s1 s2 s3 f0 f1 f2 f3 f4 b0 b1 b2 b3 b4 : Int) (v : Value) (ys : List Int) : Prop where
  rs : RS B w wr on i0 i1 i2 i3 s0 s1 s2 s3 v ys
  fb : wr.heap[H]? = some (.cells (row5 f0 f1 f2 f3 f4) 105 (0, 0))
  bb : wr.heap[K]? = some (.cells (row5 b0 b1 b2 b3 b4) 105 (0, 0))
  hH : B ≤ H
  hK : B ≤ K
  ne : H ≠ K
theorem R1.start {B : Nat} {w wr : World} {on i0 i1 i2 i3 s0 s1 s2 s3 : Int} {v : Value} {ys : List Int} (h : RS B w wr on i0 i1 i2 i3 s0 s1 s2 s3 v ys) (f0 f1 f2 f3 f4 : Int) : R1 B wr.heap.size w (wr.alloc (.cells (row5 f0 f1 f2 f3 f4) 105)) on i0 i1 i2 i3 s0 s1 s2 s3 f0 f1 f2 f3 f4 v ys :=
  ⟨h.alloc _, heap_alloc_new wr _, by have := h.size; omega⟩
theorem R2.start {B H : Nat} {w wr : World} {on i0 i1 i2 i3 s0 s1 s2 s3 f0 f1 f2 f3 f4 : Int} {v : Value} {ys : List Int} (h : R1 B H w wr on i0 i1 i2 i3 s0 s1 s2 s3 f0 f1 f2 f3 f4 v ys) (b0 b1 b2 b3 b4 : Int) : R2 B H wr.heap.size w (wr.alloc (.cells (row5 b0 b1 b2 b3 b4) 105)) on i0 i1 i2 i3 s0 s1 s2 s3 f0 f1 f2 f3 f4 b0 b1 b2 b3 b4 v ys :=
  ⟨h.rs.alloc _, blk_alloc h.fb _, heap_alloc_new wr _, h.hH, by have := h.rs.size; omega, Nat.ne_of_lt (blk_lt h.fb)⟩
theorem R1.push {B H : Nat} {w wr : World} {on i0 i1 i2 i3 s0 s1 s2 s3 f0 f1 f2 f3 f4 : Int} {v : Value} {ys : List Int} (h : R1 B H w wr on i0 i1 i2 i3 s0 s1 s2 s3 f0 f1 f2 f3 f4 v ys) {w1 : World} {v1 : Value} {zs : List Int} (hg : wr.grownBy w1 v.ownBlock) (hr : Kd.R (Kd.int .i32) 21 w1 B (fun _ => True) v1 zs) (hb : Below B w w1) : R1 B H w w1 on i0 i1 i2 i3 s0 s1 s2 s3 f0 f1 f2 f3 f4 v1 zs :=
  ⟨h.rs.push hg hr hb, h.rs.front h.fb hg, h.hH⟩
theorem R1.set0 {B H : Nat} {w wr : World} {on i0 i1 i2 i3 s0 s1 s2 s3 f0 f1 f2 f3 f4 : Int} {v : Value} {ys : List Int} (h : R1 B H w wr on i0 i1 i2 i3 s0 s1 s2 s3 f0 f1 f2 f3 f4 v ys) (n : Nat) (x : Int) : R1 B H w ((wr.drewN n).setCell ⟨H, 0, none⟩ (.int .i64 x)) on i0 i1 i2 i3 s0 s1 s2 s3 x f1 f2 f3 f4 v ys :=
  ⟨(h.rs.drew n).far (blk_drewN h.fb n) h.hH _ _, by have := blk_set (blk_drewN h.fb n) 0 (.int .i64 x); simpa using this, h.hH⟩
theorem R2.set0 {B H K : Nat} {w wr : World} {on i0 i1 i2 i3 s0 s1 s2 s3 f0 f1 f2 f3 f4 b0 b1 b2 b3 b4 : Int} {v : Value} {ys : List Int} (h : R2 B H K w wr on i0 i1 i2 i3 s0 s1 s2 s3 f0 f1 f2 f3 f4 b0 b1 b2 b3 b4 v ys) (n : Nat) (x : Int) : R2 B H K w ((wr.drewN n).setCell ⟨K, 0, none⟩ (.int .i64 x)) on i0 i1 i2 i3 s0 s1 s2 s3 f0 f1 f2 f3 f4 x b1 b2 b3 b4 v ys :=
  ⟨(h.rs.drew n).far (blk_drewN h.bb n) h.hK _ _, blk_far (blk_drewN h.fb n) (by show H ≠ K; exact h.ne) _, by have := blk_set (blk_drewN h.bb n) 0 (.int .i64 x); simpa using this, h.hH, h.hK, h.ne⟩
theorem R1.set1 {B H : Nat} {w wr : World} {on i0 i1 i2 i3 s0 s1 s2 s3 f0 f1 f2 f3 f4 : Int} {v : Value} {ys : List Int} (h : R1 B H w wr on i0 i1 i2 i3 s0 s1 s2 s3 f0 f1 f2 f3 f4 v ys) (n : Nat) (x : Int) : R1 B H w ((wr.drewN n).setCell ⟨H, 1, none⟩ (.int .i64 x)) on i0 i1 i2 i3 s0 s1 s2 s3 f0 x f2 f3 f4 v ys :=
  ⟨(h.rs.drew n).far (blk_drewN h.fb n) h.hH _ _, by have := blk_set (blk_drewN h.fb n) 1 (.int .i64 x); simpa using this, h.hH⟩
theorem R2.set1 {B H K : Nat} {w wr : World} {on i0 i1 i2 i3 s0 s1 s2 s3 f0 f1 f2 f3 f4 b0 b1 b2 b3 b4 : Int} {v : Value} {ys : List Int} (h : R2 B H K w wr on i0 i1 i2 i3 s0 s1 s2 s3 f0 f1 f2 f3 f4 b0 b1 b2 b3 b4 v ys) (n : Nat) (x : Int) : R2 B H K w ((wr.drewN n).setCell ⟨K, 1, none⟩ (.int .i64 x)) on i0 i1 i2 i3 s0 s1 s2 s3 f0 f1 f2 f3 f4 b0 x b2 b3 b4 v ys :=
  ⟨(h.rs.drew n).far (blk_drewN h.bb n) h.hK _ _, blk_far (blk_drewN h.fb n) (by show H ≠ K; exact h.ne) _, by have := blk_set (blk_drewN h.bb n) 1 (.int .i64 x); simpa using this, h.hH, h.hK, h.ne⟩
theorem R1.set2 {B H : Nat} {w wr : World} {on i0 i1 i2 i3 s0 s1 s2 s3 f0 f1 f2 f3 f4 : Int} {v : Value} {ys : List Int} (h : R1 B H w wr on i0 i1 i2 i3 s0 s1 s2 s3 f0 f1 f2 f3 f4 v ys) (n : Nat) (x : Int) : R1 B H w ((wr.drewN n).setCell ⟨H, 2, none⟩ (.int .i64 x)) on i0 i1 i2 i3 s0 s1 s2 s3 f0 f1 x f3 f4 v ys :=
  ⟨(h.rs.drew n).far (blk_drewN h.fb n) h.hH _ _, by have := blk_set (blk_drewN h.fb n) 2 (.int .i64 x); simpa using this, h.hH⟩
theorem R2.set2 {B H K : Nat} {w wr : World} {on i0 i1 i2 i3 s0 s1 s2 s3 f0 f1 f2 f3 f4 b0 b1 b2 b3 b4 : Int} {v : Value} {ys : List Int} (h : R2 B H K w wr on i0 i1 i2 i3 s0 s1 s2 s3 f0 f1 f2 f3 f4 b0 b1 b2 b3 b4 v ys) (n : Nat) (x : Int) : R2 B H K w ((wr.drewN n).setCell ⟨K, 2, none⟩ (.int .i64 x)) on i0 i1 i2 i3 s0 s1 s2 s3 f0 f1 f2 f3 f4 b0 b1 x b3 b4 v ys :=
  ⟨(h.rs.drew n).far (blk_drewN h.bb n) h.hK _ _, blk_far (blk_drewN h.fb n) (by show H ≠ K; exact h.ne) _, by have := blk_set (blk_drewN h.bb n) 2 (.int .i64 x); simpa using this, h.hH, h.hK, h.ne⟩
theorem R1.set3 {B H : Nat} {w wr : World} {on i0 i1 i2 i3 s0 s1 s2 s3 f0 f1 f2 f3 f4 : Int} {v : Value} {ys : List Int} (h : R1 B H w wr on i0 i1 i2 i3 s0 s1 s2 s3 f0 f1 f2 f3 f4 v ys) (n : Nat) (x : Int) : R1 B H w ((wr.drewN n).setCell ⟨H, 3, none⟩ (.int .i64 x)) on i0 i1 i2 i3 s0 s1 s2 s3 f0 f1 f2 x f4 v ys :=
  ⟨(h.rs.drew n).far (blk_drewN h.fb n) h.hH _ _, by have := blk_set (blk_drewN h.fb n) 3 (.int .i64 x); simpa using this, h.hH⟩
theorem R2.set3 {B H K : Nat} {w wr : World} {on i0 i1 i2 i3 s0 s1 s2 s3 f0 f1 f2 f3 f4 b0 b1 b2 b3 b4 : Int} {v : Value} {ys : List Int} (h : R2 B H K w wr on i0 i1 i2 i3 s0 s1 s2 s3 f0 f1 f2 f3 f4 b0 b1 b2 b3 b4 v ys) (n : Nat) (x : Int) : R2 B H K w ((wr.drewN n).setCell ⟨K, 3, none⟩ (.int .i64 x)) on i0 i1 i2 i3 s0 s1 s2 s3 f0 f1 f2 f3 f4 b0 b1 b2 x b4 v ys :=
  ⟨(h.rs.drew n).far (blk_drewN h.bb n) h.hK _ _, blk_far (blk_drewN h.fb n) (by show H ≠ K; exact h.ne) _, by have := blk_set (blk_drewN h.bb n) 3 (.int .i64 x); simpa using this, h.hH, h.hK, h.ne⟩
theorem R1.set4 {B H : Nat} {w wr : World} {on i0 i1 i2 i3 s0 s1 s2 s3 f0 f1 f2 f3 f4 : Int} {v : Value} {ys : List Int} (h : R1 B H w wr on i0 i1 i2 i3 s0 s1 s2 s3 f0 f1 f2 f3 f4 v ys) (n : Nat) (x : Int) : R1 B H w ((wr.drewN n).setCell ⟨H, 4, none⟩ (.int .i64 x)) on i0 i1 i2 i3 s0 s1 s2 s3 f0 f1 f2 f3 x v ys :=
  ⟨(h.rs.drew n).far (blk_drewN h.fb n) h.hH _ _, by have := blk_set (blk_drewN h.fb n) 4 (.int .i64 x); simpa using this, h.hH⟩
theorem R2.set4 {B H K : Nat} {w wr : World} {on i0 i1 i2 i3 s0 s1 s2 s3 f0 f1 f2 f3 f4 b0 b1 b2 b3 b4 : Int} {v : Value} {ys : List Int} (h : R2 B H K w wr on i0 i1 i2 i3 s0 s1 s2 s3 f0 f1 f2 f3 f4 b0 b1 b2 b3 b4 v ys) (n : Nat) (x : Int) : R2 B H K w ((wr.drewN n).setCell ⟨K, 4, none⟩ (.int .i64 x)) on i0 i1 i2 i3 s0 s1 s2 s3 f0 f1 f2 f3 f4 b0 b1 b2 b3 x v ys :=
  ⟨(h.rs.drew n).far (blk_drewN h.bb n) h.hK _ _, blk_far (blk_drewN h.fb n) (by show H ≠ K; exact h.ne) _, by have := blk_set (blk_drewN h.bb n) 4 (.int .i64 x); simpa using this, h.hH, h.hK, h.ne⟩
theorem R2.copy0 {B H K : Nat} {w wr : World} {on i0 i1 i2 i3 s0 s1 s2 s3 f0 f1 f2 f3 f4 b0 b1 b2 b3 b4 : Int} {v : Value} {ys : List Int} (h : R2 B H K w wr on i0 i1 i2 i3 s0 s1 s2 s3 f0 f1 f2 f3 f4 b0 b1 b2 b3 b4 v ys) (x : Int) : R2 B H K w (wr.setCell ⟨B + 1, 0, none⟩ (.int .i64 x)) on i0 i1 i2 i3 x s1 s2 s3 f0 f1 f2 f3 f4 b0 b1 b2 b3 b4 v ys :=
  ⟨h.rs.set0 x, blk_far h.fb (blk_ne h.fb h.rs.sts (by decide)) _, blk_far h.bb (blk_ne h.bb h.rs.sts (by decide)) _, h.hH, h.hK, h.ne⟩
theorem R2.copy1 {B H K : Nat} {w wr : World} {on i0 i1 i2 i3 s0 s1 s2 s3 f0 f1 f2 f3 f4 b0 b1 b2 b3 b4 : Int} {v : Value} {ys : List Int} (h : R2 B H K w wr on i0 i1 i2 i3 s0 s1 s2 s3 f0 f1 f2 f3 f4 b0 b1 b2 b3 b4 v ys) (x : Int) : R2 B H K w (wr.setCell ⟨B + 1, 1, none⟩ (.int .i64 x)) on i0 i1 i2 i3 s0 x s2 s3 f0 f1 f2 f3 f4 b0 b1 b2 b3 b4 v ys :=
  ⟨h.rs.set1 x, blk_far h.fb (blk_ne h.fb h.rs.sts (by decide)) _, blk_far h.bb (blk_ne h.bb h.rs.sts (by decide)) _, h.hH, h.hK, h.ne⟩
theorem R2.copy2 {B H K : Nat} {w wr : World} {on i0 i1 i2 i3 s0 s1 s2 s3 f0 f1 f2 f3 f4 b0 b1 b2 b3 b4 : Int} {v : Value} {ys : List Int} (h : R2 B H K w wr on i0 i1 i2 i3 s0 s1 s2 s3 f0 f1 f2 f3 f4 b0 b1 b2 b3 b4 v ys) (x : Int) : R2 B H K w (wr.setCell ⟨B + 1, 2, none⟩ (.int .i64 x)) on i0 i1 i2 i3 s0 s1 x s3 f0 f1 f2 f3 f4 b0 b1 b2 b3 b4 v ys :=
  ⟨h.rs.set2 x, blk_far h.fb (blk_ne h.fb h.rs.sts (by decide)) _, blk_far h.bb (blk_ne h.bb h.rs.sts (by decide)) _, h.hH, h.hK, h.ne⟩
theorem R2.copy3 {B H K : Nat} {w wr : World} {on i0 i1 i2 i3 s0 s1 s2 s3 f0 f1 f2 f3 f4 b0 b1 b2 b3 b4 : Int} {v : Value} {ys : List Int} (h : R2 B H K w wr on i0 i1 i2 i3 s0 s1 s2 s3 f0 f1 f2 f3 f4 b0 b1 b2 b3 b4 v ys) (x : Int) : R2 B H K w (wr.setCell ⟨B + 1, 3, none⟩ (.int .i64 x)) on i0 i1 i2 i3 s0 s1 s2 x f0 f1 f2 f3 f4 b0 b1 b2 b3 b4 v ys :=
  ⟨h.rs.set3 x, blk_far h.fb (blk_ne h.fb h.rs.sts (by decide)) _, blk_far h.bb (blk_ne h.bb h.rs.sts (by decide)) _, h.hH, h.hK, h.ne⟩
end Go.Proofs.YtojlgjdebokelabH
