/- psalterylaw33.MixerMixes answers true for every input: two lists mixed, faded and in two channels are the reference's. No condition: every two lists of int16, every two shares. -/
import Derived.Test.YtojlgjdebokelaaPMixerMixesx2
import Derived.Test.YtojlgjdebokelaaHList
namespace Go.Proofs.Ytojlgjdebokelaa.Pure
open Go.RowKit Go.Proofs.Ytojlgjdebokelaa.PMixerMixes Go.Proofs.YtojlgjdebokelaaW.PrintWords Go.Proofs.YtojlgjdebokelaaW.PrintLast
open Go.Proofs.YtojlgjdebokelaaH

theorem alive_f : psalterylaw33_alive.f 10 = some true := by decide +kernel
theorem alive_any (k : Nat) (h : 10 ≤ k) : psalterylaw33_alive.f k = some true := by
  obtain ⟨j, rfl⟩ : ∃ j, k = 10 + j := ⟨k - 10, by omega⟩
  exact more_rounds (g := fun k => psalterylaw33_alive.f k) psalterylaw33_alive.mono 10 j _ alive_f
theorem same (a : List Int) (ha : a.length ≤ 10000) (d : Nat) : ∀ (k i : Nat), i ≤ a.length → a.length - i = d → d < k → psalteryref04_Same.l0 k a a i = some true := by
  induction d with
  | zero =>
    intro k i h1 hd hk
    obtain ⟨k, rfl⟩ : ∃ m, k = m + 1 := ⟨k - 1, by omega⟩
    simp only [psalteryref04_Same.l0]
    rw [if_neg (by omega)]
  | succ d ih =>
    intro k i h1 hd hk
    obtain ⟨k, rfl⟩ : ∃ m, k = m + 1 := ⟨k - 1, by omega⟩
    simp only [psalteryref04_Same.l0]
    rw [if_pos (by omega), if_pos (by omega), if_pos (by omega), if_pos trivial, w64_in _ (by omega)]
    exact ih k (i + 1) (by omega) (by omega) (by omega)
theorem same_f (a : List Int) (ha : a.length ≤ 10000) (k : Nat) (h : a.length < k) : psalteryref04_Same.f k a a = some true := by
  unfold psalteryref04_Same.f
  rw [if_pos rfl]
  exact same a ha a.length k 0 (by omega) (by omega) h
def Small (l : List Int) : Prop := ∀ x ∈ l, -32768 ≤ x ∧ x ≤ 32767
theorem at_f (l : List Int) (hl : Small l) (i : Int) (h0 : 0 ≤ i) : psalteryref33_at.f l i = some (atv l i) := by
  unfold psalteryref33_at.f atv
  by_cases h : i < (l.length : Int)
  · have := hl _ (rd_mem l i h0 h)
    rw [if_pos h, if_pos h0, if_pos h, w64_in _ (by omega)]
  · rw [if_neg h, if_neg h]
theorem round_f (n s : Int) (h : -9223372036854775808 ≤ n ∧ n ≤ 9223372036854775807) : psalteryref01_Round.f n s = some (rnd n s) := by
  unfold psalteryref01_Round.f
  rw [if_pos h.1, if_pos h.2]
theorem sat_f (n : Int) : psalteryref01_Sat.f n 16 = some (clamp n (-32768) 32767) := rfl
theorem mixes (a b : List Int) (x y : Int) (ha : Small a) (hb : Small b) (hx : -32768 ≤ x ∧ x ≤ 32767) (hy : -32768 ≤ y ∧ y ≤ 32767) (na : a.length ≤ 2000) (nb : b.length ≤ 2000) (d : Nat) : ∀ (k i : Nat), i ≤ max a.length b.length → max a.length b.length - i = d → 2 * d + 1 < k →
    psalteryref33_Mix.l0 k a b x y (tab i (mixv a b x y)) i = some (tab (max a.length b.length) (mixv a b x y)) := by
  induction d with
  | zero =>
    intro k i h1 hd hk
    obtain ⟨k, rfl⟩ : ∃ m, k = m + 2 := ⟨k - 2, by omega⟩
    obtain rfl : i = max a.length b.length := by omega
    simp only [psalteryref33_Mix.l0]
    rw [if_neg (by omega), decide_eq_false (by omega)]
    simp only [psalteryref33_Mix.j1]
    rw [if_neg (by decide)]
  | succ d ih =>
    intro k i h1 hd hk
    obtain ⟨k, rfl⟩ : ∃ m, k = m + 2 := ⟨k - 2, by omega⟩
    have pa := atv_bd a ha i (by omega)
    have pb := atv_bd b hb i (by omega)
    have ma := mul16_bd pa hx
    have mb := mul16_bd pb hy
    have step : psalteryref33_Mix.j1 (k + 1) a b x y (tab i (mixv a b x y)) i true = some (tab (max a.length b.length) (mixv a b x y)) := by
      simp only [psalteryref33_Mix.j1]
      rw [if_pos trivial, at_f a ha i (by omega), at_f b hb i (by omega)]
      simp only [Option.bind_some]
      rw [w64_in x (by omega), w64_in y (by omega), w64_in (atv a i * x) (by omega), w64_in (atv b i * y) (by omega), w64_in _ (by omega), round_f _ _ (by omega)]
      simp only [Option.bind_some, sat_f]
      have hv := shr16_bd (atv a i * x + atv b i * y)
      unfold shr16 at hv
      rw [w16_in _ hv, if_pos (by rw [tab_length]; omega), w64_in _ (by omega)]
      have e := tab_succ i (mixv a b x y)
      have := ih k (i + 1) (by omega) (by omega) (by omega)
      rw [e] at this
      exact this
    simp only [psalteryref33_Mix.l0]
    by_cases c : (i : Int) < (a.length : Int)
    · rw [if_pos c]; exact step
    · rw [if_neg c, decide_eq_true (show (i : Int) < (b.length : Int) by omega)]; exact step
/-- A faded number. -/
def fv (l : List Int) (x y j : Int) : Int := clamp (rnd (wrap64 (wrap64 (rd l j) * wrap64 (wrap64 x + wrap64 (Int.tdiv (wrap64 (j * wrap64 (wrap64 y - wrap64 x))) (l.length : Int))))) 15) (-32768) 32767
theorem fades (l : List Int) (x y : Int) (nl : l.length ≤ 2000) (d : Nat) : ∀ (k i : Nat), i ≤ l.length → l.length - i = d → d < k →
    mixer_Fade.l0 k l x (mix i l.length (fv l x y)) (wrap64 (wrap64 y - wrap64 x)) l (l.length : Int) i = some (tab l.length (fv l x y)) := by
  induction d with
  | zero =>
    intro k i h1 hd hk
    obtain ⟨k, rfl⟩ : ∃ m, k = m + 1 := ⟨k - 1, by omega⟩
    obtain rfl : i = l.length := by omega
    simp only [mixer_Fade.l0]
    rw [if_neg (by omega), mix_full]
  | succ d ih =>
    intro k i h1 hd hk
    obtain ⟨k, rfl⟩ : ∃ m, k = m + 1 := ⟨k - 1, by omega⟩
    have hs : mixer_share.f (wrap64 ((wrap64 (rd l i)) * (wrap64 ((wrap64 (x)) + (wrap64 (Int.tdiv (wrap64 (i * (wrap64 (wrap64 y - wrap64 x)))) (l.length : Int))))))) = some (fv l x y i) := by
      unfold mixer_share.f fix_Round.f fix_Sat16.f fv
      rw [if_pos (w64_range _).1, if_pos (w64_range _).2]
      rfl
    simp only [mixer_Fade.l0]
    rw [if_pos (by omega), if_pos (by omega), if_pos (by omega), if_neg (by omega), hs, Option.bind_some, if_pos (by rw [mix_length _ _ _ h1]; omega), Int.toNat_natCast, mix_set i l.length _ (by omega) _ rfl, w64_in ((i : Int) + 1) (by omega)]
    exact ih k (i + 1) (by omega) (by omega) (by omega)
theorem reffades (l : List Int) (x y : Int) (nl : l.length ≤ 2000) (d : Nat) : ∀ (k i : Nat), i ≤ l.length → l.length - i = d → d < k →
    psalteryref33_Fade.l0 k l x y (tab i (fv l x y)) (l.length : Int) i = some (tab l.length (fv l x y)) := by
  induction d with
  | zero =>
    intro k i h1 hd hk
    obtain ⟨k, rfl⟩ : ∃ m, k = m + 1 := ⟨k - 1, by omega⟩
    obtain rfl : i = l.length := by omega
    simp only [psalteryref33_Fade.l0]
    rw [if_neg (by omega)]
  | succ d ih =>
    intro k i h1 hd hk
    obtain ⟨k, rfl⟩ : ∃ m, k = m + 1 := ⟨k - 1, by omega⟩
    simp only [psalteryref33_Fade.l0]
    rw [if_pos (by omega), if_neg (by omega), if_pos (by omega), if_pos (by omega), round_f _ _ (w64_range _)]
    simp only [Option.bind_some, sat_f]
    have hv : -32768 ≤ fv l x y i ∧ fv l x y i ≤ 32767 := clamp_in _ _ _ (by decide)
    have e : IntKind.i16.wrap (fv l x y i) = fv l x y i := w16_in _ hv
    unfold fv at e
    rw [e, if_pos (by rw [tab_length]; omega), w64_in ((i : Int) + 1) (by omega)]
    have e2 := tab_succ i (fv l x y)
    have := ih k (i + 1) (by omega) (by omega) (by omega)
    rw [e2] at this
    exact this
theorem side (l : List Int) (hl : Small l) (x : Int) (hx : 0 ≤ x ∧ x ≤ 32767) (i : Int) (h0 : 0 ≤ i) (h : i < (l.length : Int)) :
    psalteryref01_Round.f (wrap64 ((wrap64 (rd l i)) * (wrap64 x))) 15 = some (mixv l [] x 0 i) ∧ IntKind.i16.wrap (mixv l [] x 0 i) = mixv l [] x 0 i := by
  have p := hl _ (rd_mem l i h0 h)
  have hm : mixv l [] x 0 i = clamp (rnd (rd l i * x) 15) (-32768) 32767 := by
    unfold mixv shr16
    have e1 : atv l i = rd l i := by unfold atv; rw [if_pos h]
    have e2 : atv [] i = 0 := by unfold atv; rw [if_neg (by simp; omega)]
    rw [e1, e2]; simp
  have hb : -1073709056 ≤ rd l i * x ∧ rd l i * x ≤ 1073676289 := by
    constructor
    · have h1 : (-32768) * x ≤ rd l i * x := Int.mul_le_mul_of_nonneg_right p.1 hx.1
      omega
    · have h1 : rd l i * x ≤ 32767 * x := Int.mul_le_mul_of_nonneg_right p.2 hx.1
      omega
  have hr : rnd (rd l i * x) 15 = (rd l i * x / 16384 + 1) / 2 := by
    unfold rnd
    rw [if_neg (by decide), if_neg (by decide)]; rfl
  have hc : clamp (rnd (rd l i * x) 15) (-32768) 32767 = rnd (rd l i * x) 15 := by
    apply clamp_id
    rw [hr]; omega
  rw [hm, hc]
  refine ⟨?_, w16_in _ (by rw [hr]; omega)⟩
  rw [w64_in (rd l i) (by omega), w64_in x (by omega), w64_in _ (by omega), round_f _ _ (by omega)]
theorem pans (l : List Int) (hl : Small l) (x : Int) (hx : 0 ≤ x ∧ x ≤ 32767) (nl : l.length ≤ 2000) (d : Nat) : ∀ (k i : Nat), i ≤ l.length → l.length - i = d → d < k →
    psalteryref33_Pan.l0 k l x (tab (2 * i) (panv l x)) i = some (tab (2 * l.length) (panv l x)) := by
  induction d with
  | zero =>
    intro k i h1 hd hk
    obtain ⟨k, rfl⟩ : ∃ m, k = m + 1 := ⟨k - 1, by omega⟩
    obtain rfl : i = l.length := by omega
    simp only [psalteryref33_Pan.l0]
    rw [if_neg (by omega)]
  | succ d ih =>
    intro k i h1 hd hk
    obtain ⟨k, rfl⟩ : ∃ m, k = m + 1 := ⟨k - 1, by omega⟩
    obtain ⟨s1, s2⟩ := side l hl x hx i (by omega) (by omega)
    obtain ⟨s3, s4⟩ := side l hl (32767 - x) (by omega) i (by omega) (by omega)
    simp only [psalteryref33_Pan.l0]
    rw [if_pos (by omega), if_pos (by omega), s1, Option.bind_some, w16_in (32767 - x) (by omega), s3]
    simp only [Option.bind_some]
    rw [s2, s4, if_pos (by rw [tab_length]; simp; omega), w64_in _ (by omega)]
    have e0 := tab_succ (2 * i) (panv l x)
    have e1 := tab_succ (2 * i + 1) (panv l x)
    have t0 : panv l x ((2 * i : Nat) : Int) = mixv l [] x 0 i := by
      unfold panv turns; rw [if_pos (by omega)]; congr 1; omega
    have t1 : panv l x ((2 * i + 1 : Nat) : Int) = mixv l [] (32767 - x) 0 i := by
      unfold panv turns; rw [if_neg (by omega)]; congr 1; omega
    rw [t0] at e0
    rw [t1, e0] at e1
    have := ih k (i + 1) (by omega) (by omega) (by omega)
    rw [show 2 * (i + 1) = 2 * i + 1 + 1 by omega, e1, List.append_assoc] at this
    exact this

theorem MixerMixes : psalterylaw33_MixerMixes.Pure := by
  intro a b x y _ _ ha _ _ hb hx hy
  have ha : Small a := fun z hz => wf_i16 (ha z hz)
  have hb : Small b := fun z hz => wf_i16 (hb z hz)
  have hx := wf_i16 hx
  have hy := wf_i16 hy
  refine ⟨5003, ?_⟩
  unfold psalterylaw33_MixerMixes.f
  rw [alive_any 5003 (by omega), Option.bind_some, if_pos rfl]
  by_cases h1 : (a.length : Int) > 2000
  · rw [if_pos h1]; rfl
  · rw [if_neg h1]
    by_cases h2 : (b.length : Int) > 2000
    · rw [decide_eq_true h2]; rfl
    · rw [decide_eq_false h2]
      have hmix : mixer_Mix.f a b x y = some (tab (max a.length b.length) (mixv a b x y)) := by
        unfold mixer_Mix.f
        rw [if_pos ⟨by omega, by omega, ha, hb, hx, hy⟩]
      have hrmix : psalteryref33_Mix.f 5002 a b x y = some (tab (max a.length b.length) (mixv a b x y)) :=
        mixes a b x y ha hb hx hy (by omega) (by omega) (max a.length b.length) 5002 0 (by omega) (by omega) (by omega)
      have hfade : mixer_Fade.f 5002 a x y = some (tab a.length (fv a x y)) := by
        unfold mixer_Fade.f
        rw [if_pos (by omega), if_pos (by omega), Int.toNat_natCast, ← mix_zero a.length (fv a x y)]
        exact fades a x y (by omega) a.length 5002 0 (by omega) (by omega) (by omega)
      have hrfade : psalteryref33_Fade.f 5002 a x y = some (tab a.length (fv a x y)) :=
        reffades a x y (by omega) a.length 5002 0 (by omega) (by omega) (by omega)
      have same1 := same_f (tab (max a.length b.length) (mixv a b x y)) (by rw [tab_length]; omega) 5002 (by rw [tab_length]; omega)
      have same2 := same_f (tab a.length (fv a x y)) (by rw [tab_length]; omega) 5002 (by rw [tab_length]; omega)
      simp only [psalterylaw33_MixerMixes.j0]
      rw [if_neg (by decide), hmix, hrmix, hfade, hrfade]
      simp only [Option.bind_some]
      rw [same1]
      simp only [Option.bind_some, if_true]
      rw [same2]
      simp only [Option.bind_some, Bool.not_true]
      by_cases c : x < 0
      · unfold mixer_Pan.f
        rw [if_pos c]
        simp only [Option.bind_some, psalterylaw33_MixerMixes.j1]
        rw [if_neg (by decide), if_pos c]
        rfl
      · have hpan : mixer_Pan.f a x = some (tab (2 * a.length) (panv a x), 0) := by
          unfold mixer_Pan.f
          rw [if_neg c, if_pos ⟨by omega, ha, by omega⟩]
        have hrpan : psalteryref33_Pan.f 5001 a x = some (tab (2 * a.length) (panv a x)) :=
          pans a ha x (by omega) (by omega) a.length 5001 0 (by omega) (by omega) (by omega)
        have same3 := same_f (tab (2 * a.length) (panv a x)) (by rw [tab_length]; omega) 5001 (by rw [tab_length]; omega)
        rw [hpan]
        simp only [Option.bind_some, psalterylaw33_MixerMixes.j1]
        rw [if_neg (by decide), if_neg c, if_pos trivial, hrpan]
        simp only [Option.bind_some]
        rw [same3]
        rfl

end Go.Proofs.Ytojlgjdebokelaa.Pure
