/- mixer.Pan's answer as one plain list: left and right in turns. -/
import Derived.Test.YtojlgjdebokelaaHPan
import Derived.Test.YtojlgjdebokelaaHRes
set_option linter.unusedVariables false
namespace Go.Proofs.YtojlgjdebokelaaH
open Go.RowKit Go.Proofs.YtojlgjdebokelaaW.PrintWords Go.Proofs.Ytojlgjdebokelaa.PLib2

def turns (f g : Int → Int) (j : Int) : Int := if j % 2 = 0 then f (j / 2) else g (j / 2)
theorem weave_loop (n : Nat) (hn : n ≤ 20000) (f g : Int → Int) (d : Nat) : ∀ (k i : Nat), i ≤ n → n - i = d → 4 * d < k →
    pcm_Weave.l0 k [tab n f, tab n g] (tab (2 * i) (turns f g)) (n : Int) i = some (tab (2 * n) (turns f g), 0) := by
  induction d with
  | zero =>
    intro k i h1 hd hk
    obtain ⟨k, rfl⟩ : ∃ m, k = m + 1 := ⟨k - 1, by omega⟩
    obtain rfl : i = n := by omega
    simp only [pcm_Weave.l0]
    rw [if_neg (by omega)]
  | succ d ih =>
    intro k i h1 hd hk
    obtain ⟨k, rfl⟩ : ∃ m, k = m + 4 := ⟨k - 4, by omega⟩
    have r0 : rd_L1 [tab n f, tab n g] 0 = tab n f := rfl
    have r1 : rd_L1 [tab n f, tab n g] 1 = tab n g := rfl
    have e0 := tab_succ (2 * i) (turns f g)
    have e1 := tab_succ (2 * i + 1) (turns f g)
    have t0 : turns f g ((2 * i : Nat) : Int) = f i := by
      unfold turns; rw [if_pos (by omega)]; congr 1; omega
    have t1 : turns f g ((2 * i + 1 : Nat) : Int) = g i := by
      unfold turns; rw [if_neg (by omega)]; congr 1; omega
    rw [t0] at e0
    rw [t1] at e1
    simp only [pcm_Weave.l0]
    rw [if_pos (by omega)]
    simp only [pcm_Weave.l1, List.length_cons, List.length_nil]
    rw [if_pos (by decide), if_pos (by decide), if_pos (by decide), if_pos (by omega), r0, if_pos (by rw [tab_length]; omega), if_pos (by rw [tab_length]; omega), tab_rd n f _ (by omega) (by omega), ← e0]
    rw [show wrap64 (0 + 1) = 1 from w64_in _ (by omega), if_pos (by decide), if_pos (by decide), if_pos (by decide), if_pos (by omega), r1, if_pos (by rw [tab_length]; omega), if_pos (by rw [tab_length]; omega), tab_rd n g _ (by omega) (by omega), ← e1]
    rw [show wrap64 (1 + 1) = 2 from w64_in _ (by omega), if_neg (by decide), w64_in ((i : Int) + 1) (by omega)]
    exact ih k (i + 1) (by omega) (by omega) (by omega)
theorem weave_f (n : Nat) (hn : n ≤ 20000) (f g : Int → Int) : pcm_Weave.f (4 * n + 2) [tab n f, tab n g] = some (tab (2 * n) (turns f g), 0) := by
  have h := weave_loop n hn f g n (4 * n + 1) 0 (by omega) (by omega) (by omega)
  unfold pcm_Weave.f
  have r0 : rd_L1 [tab n f, tab n g] 0 = tab n f := rfl
  have r1 : rd_L1 [tab n f, tab n g] 1 = tab n g := rfl
  simp only [List.length_cons, List.length_nil]
  rw [w64_in _ (by omega), if_neg (by decide), if_neg (by decide), if_pos (by decide), if_pos (by decide), if_pos (by decide), r0, show (((0 + 1 + 1 : Nat) : Int) - 1) = 1 by decide, r1]
  have hb : (((tab n f).length : Int) != ((tab n g).length : Int)) = false := by rw [tab_length, tab_length]; simp
  rw [hb]
  simp only [pcm_Weave.j0, List.length_cons, List.length_nil]
  rw [if_neg (by decide), if_pos (by decide), r0, tab_length]
  exact h
def panv (l : List Int) (x : Int) : Int → Int := turns (mixv l [] x 0) (mixv l [] (32767 - x) 0)
theorem pan_any (A : Option Addr) (c : Nat) (l : List Int) (x : Int) (w : World) (hr : Kd.C (Kd.int .i16) w A l.length l) (hc : l.length ≤ c)
    (hl : ∀ x ∈ l, -32768 ≤ x ∧ x ≤ 32767) (hx : 0 ≤ x ∧ x ≤ 32767) (nl : l.length ≤ 20000) :
    Calls Try.prog 39 #[.slice A l.length c, .int .i16 x] w fun e w' => ∃ v : Value, e = .returned (.tuple #[v, .int .i64 0]) ∧ Kd.R (Kd.int .i16) 22 w' w.heap.size (fun _ => True) v (tab (2 * l.length) (panv l x)) ∧ Below w.heap.size w w' :=
  pan_yes A c l x w hr hc hl hx nl _ _ _ (weave_f l.length nl _ _)
end Go.Proofs.YtojlgjdebokelaaH
