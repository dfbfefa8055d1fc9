/- Plain lemmas on lists that are read, set and appended to. No program in sight. -/
import Derived.Test.YtojlgjdebokelabHPure
namespace Go.Proofs.YtojlgjdebokelabH
open Go.RowKit Go.Proofs.YtojlgjdebokelabW.PrintWords

theorem rd_set (l : List Int) (i j : Int) (v : Int) (hi : 0 ≤ i) (hj : 0 ≤ j) (h : i < (l.length : Int)) : rd (l.set i.toNat v) j = if j = i then v else rd l j := by
  unfold rd
  rw [List.getD_eq_getElem?_getD, List.getD_eq_getElem?_getD, List.getElem?_set]
  by_cases c : j = i
  · subst c
    rw [if_pos rfl, if_pos rfl, if_pos (by omega)]; rfl
  · rw [if_neg (by omega), if_neg c]
theorem rd_push (l : List Int) (j : Int) (v : Int) (hj : 0 ≤ j) (h : j ≤ (l.length : Int)) : rd (l ++ [v]) j = if j = (l.length : Int) then v else rd l j := by
  unfold rd
  rw [List.getD_eq_getElem?_getD, List.getD_eq_getElem?_getD]
  by_cases c : j = (l.length : Int)
  · rw [if_pos c, List.getElem?_append_right (by omega), show j.toNat - l.length = 0 by omega]; rfl
  · rw [if_neg c, List.getElem?_append_left (by omega)]
theorem ext_rd (a b : List Int) (h : a.length = b.length) (hr : ∀ j, 0 ≤ j → j < (a.length : Int) → rd a j = rd b j) : a = b := by
  apply List.ext_getElem h
  intro i h1 h2
  have := hr i (by omega) (by omega)
  unfold rd at this
  rw [List.getD_eq_getElem?_getD, List.getD_eq_getElem?_getD, Int.toNat_natCast, List.getElem?_eq_getElem h1, List.getElem?_eq_getElem h2] at this
  exact this
/-- A list of n numbers, by a rule. -/
def tab (n : Nat) (f : Int → Int) : List Int := (List.range n).map fun (i : Nat) => f (i : Int)
theorem tab_length (n : Nat) (f : Int → Int) : (tab n f).length = n := by simp [tab]
theorem tab_rd (n : Nat) (f : Int → Int) (j : Int) (h0 : 0 ≤ j) (h1 : j < (n : Int)) : rd (tab n f) j = f j := by
  unfold rd tab
  rw [List.getD_eq_getElem?_getD, List.getElem?_map, List.getElem?_range (by omega)]
  simp
  rw [Int.max_eq_left h0]
theorem tab_succ (n : Nat) (f : Int → Int) : tab (n + 1) f = tab n f ++ [f n] := by
  simp [tab, List.range_succ]
theorem tab_zero (f : Int → Int) : tab 0 f = [] := rfl
/-- A list whose first i numbers are by a rule, the rest as they were. -/
def mix (i n : Nat) (f : Int → Int) : List Int := tab i f ++ List.replicate (n - i) 0
theorem mix_zero (n : Nat) (f : Int → Int) : mix 0 n f = List.replicate n 0 := by simp [mix, tab]
theorem mix_full (n : Nat) (f : Int → Int) : mix n n f = tab n f := by simp [mix]
theorem mix_length (i n : Nat) (f : Int → Int) (h : i ≤ n) : (mix i n f).length = n := by simp [mix, tab_length]; omega
theorem mix_set (i n : Nat) (f : Int → Int) (h : i < n) (v : Int) (hv : v = f i) : (mix i n f).set i v = mix (i + 1) n f := by
  subst hv
  unfold mix
  rw [tab_succ, show n - i = (n - (i + 1)) + 1 by omega, List.replicate_succ, List.set_append_right _ _ (by rw [tab_length]; exact Nat.le_refl _), tab_length, Nat.sub_self, List.set_cons_zero, List.append_assoc]
  rfl
end Go.Proofs.YtojlgjdebokelabH
