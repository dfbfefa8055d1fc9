/- gain.Restore's answer as one plain function; where it refuses; its callees' answers. -/
import Derived.Test.YtojlgjdebokelabHGain
import Derived.Test.YtojlgjdebokelabHExp2
set_option linter.unusedVariables false
namespace Go.Proofs.YtojlgjdebokelabH
open Go.RowKit Go.Proofs.YtojlgjdebokelabW.PrintWords Go.Proofs.Ytojlgjdebokelab.PLib3

theorem restore_no1 (Aq Ar : Option Addr) (cq cr : Nat) (nq nr : Nat) (g noise lines e : Int) (w : World) (he : (e != 0) = true)
    (hmay : Calls Try.prog 41 #[.int .i64 nq, .slice Aq nq cq, .int .i64 g] w fun x w' => x = .returned (.tuple #[.int .i64 0, .int .i64 e]) ∧ Drawn0 w w') :
    Calls Try.prog 10 #[.slice Aq nq cq, .int .i64 g, .slice Ar nr cr, .int .i64 noise, .int .i64 lines] w fun x w' => x = .returned (.tuple #[.slice none 0 0, .int .i64 e]) ∧ Drawn0 w w' := by
  have Hmay := Lib.hid hmay
  have he2 : (e == 0) = false := by simpa using he
  clear hmay
  go_enter Try.func10, Try.ntmps10
  go_wp2_with fail
  refine (Hmay.out).mono ?_
  rintro x w1 ⟨rfl, ⟨n1, rfl⟩⟩
  go_wp2
  go_ret2
  exact ⟨rfl, ⟨n1, rfl⟩⟩
theorem restore_no2 (Aq Ar : Option Addr) (cq cr : Nat) (nq nr : Nat) (g noise lines s : Int) (w : World)
    (hmay : Calls Try.prog 41 #[.int .i64 nq, .slice Aq nq cq, .int .i64 g] w fun x w' => x = .returned (.tuple #[.int .i64 s, .int .i64 0]) ∧ Drawn0 w w')
    (hres : ∀ n : Nat, Calls Try.prog 42 #[.slice Aq nq cq, .slice Ar nr cr, .int .i64 noise, .int .i64 lines] (w.drewN n) fun e w' => e = .returned (.bool false) ∧ Drawn0 (w.drewN n) w') :
    Calls Try.prog 10 #[.slice Aq nq cq, .int .i64 g, .slice Ar nr cr, .int .i64 noise, .int .i64 lines] w fun x w' => x = .returned (.tuple #[.slice none 0 0, .int .i64 1]) ∧ Drawn0 w w' := by
  have Hmay := Lib.hid hmay
  have Hres := Lib.hid hres
  clear hmay hres
  go_enter Try.func10, Try.ntmps10
  go_wp2_with fail
  refine (Hmay.out).mono ?_
  rintro x w1 ⟨rfl, ⟨n1, rfl⟩⟩
  go_wp2_with fail
  refine (Hres.out _).mono ?_
  rintro x w1 ⟨rfl, ⟨n2, rfl⟩⟩
  go_wp2
  go_ret2
  exact ⟨rfl, ⟨n1 + n2, rfl⟩⟩
def Fair (q : List Int) : Prop := ∀ x ∈ q, -32767 ≤ x ∧ x ≤ 32767
instance (q : List Int) : Decidable (Fair q) := by unfold Fair; infer_instance
theorem pow_down (n : Nat) (h : n ≤ 13) : (1 : Int) ≤ 2 ^ n ∧ (2 : Int) ^ n ≤ 8192 := by
  have : ∀ n : Fin 14, (1 : Int) ≤ 2 ^ n.val ∧ (2 : Int) ^ n.val ≤ 8192 := by decide +kernel
  exact this ⟨n, by omega⟩
theorem step_bd (q : Int) (h0 : 0 ≤ q) (h1 : q ≤ 7680) : 65536 ≤ expv q ∧ expv q ≤ 140737488355328 := by
  unfold expv
  have hm := mant8_bd q
  by_cases c : 14 ≤ q / 256
  · rw [if_pos c]
    have hp := pow_up (q / 256 - 14).toNat (by omega)
    have h1 : mant q 8 * 2 ^ (q / 256 - 14).toNat ≤ 2147483647 * 65536 := Int.mul_le_mul hm.2 hp.2 (by omega) (by omega)
    have h2 : mant q 8 * 1 ≤ mant q 8 * 2 ^ (q / 256 - 14).toNat := Int.mul_le_mul_of_nonneg_left hp.1 (by omega)
    omega
  · rw [if_neg c]
    have hr := rnd_range (mant q 8) (-(q / 256 - 14)) (by omega) (by omega)
    refine ⟨?_, by omega⟩
    unfold rnd
    rw [if_neg (by omega), if_neg (by omega)]
    have hp := pow_down ((-(q / 256 - 14)).toNat - 1) (by omega)
    have : 131072 ≤ mant q 8 / 2 ^ ((-(q / 256 - 14)).toNat - 1) := by
      rw [Int.le_ediv_iff_mul_le (by omega)]
      have : 131072 * 2 ^ ((-(q / 256 - 14)).toNat - 1) ≤ 131072 * (8192 : Int) := Int.mul_le_mul_of_nonneg_left hp.2 (by omega)
      omega
    omega
theorem step_f (g : Int) (h0 : 0 ≤ g) (h1 : g ≤ 240) : gain_Step.f g = some (expv (32 * g), 0) := by
  have hb := step_bd (32 * g) (by omega) (by omega)
  have he : expf (32 * g) = (expv (32 * g), 0) := by
    unfold expf
    rw [if_neg (by omega)]
  unfold gain_Step.f logs_Exp.f
  rw [if_neg (by omega), if_neg (by omega), w64_in (32 * g) (by omega), w32_in _ (by omega), he]; rfl
theorem step_no (g : Int) (h : g < 0 ∨ g > 240) : gain_Step.f g = some (0, 1) := by
  unfold gain_Step.f
  by_cases c : g < 0
  · rw [if_pos c]
  · rw [if_neg c, if_pos (by omega)]
/-- From i on, all steps are fair. -/
theorem may_loop (q : List Int) (s : Int) (hs : 0 ≤ s ∧ s ≤ 140737488355328) (hl : q.length ≤ 120) (d : Nat) : ∀ (k i : Nat), i ≤ q.length → q.length - i = d → d < k →
    gain_may.l0 k s q (q.length : Int) i = some (if Fair (q.drop i) then (s, 0) else (0, 1)) := by
  induction d with
  | zero =>
    intro k i h1 hd hk
    obtain ⟨k, rfl⟩ : ∃ m, k = m + 1 := ⟨k - 1, by omega⟩
    have e : q.drop i = [] := List.drop_eq_nil_of_le (by omega)
    rw [e, if_pos (by intro x hx; simp at hx)]
    simp only [gain_may.l0]
    rw [if_neg (by omega), w64_in s (by omega)]
  | succ d ih =>
    intro k i h1 hd hk
    obtain ⟨k, rfl⟩ : ∃ m, k = m + 1 := ⟨k - 1, by omega⟩
    have hi : i < q.length := by omega
    have e : q.drop i = rd q i :: q.drop (i + 1) := by
      rw [List.drop_eq_getElem_cons hi]
      congr 1
      unfold rd
      rw [List.getD_eq_getElem?_getD, Int.toNat_natCast, List.getElem?_eq_getElem hi]; rfl
    have hf : Fair (q.drop i) ↔ (-32767 ≤ rd q i ∧ rd q i ≤ 32767) ∧ Fair (q.drop (i + 1)) := by
      rw [e]; unfold Fair
      simp
    simp only [gain_may.l0]
    rw [if_pos (by omega), if_pos (by omega), if_pos (by omega)]
    by_cases c1 : rd q i < -32767
    · rw [if_pos c1, if_neg (fun h => by have := (hf.1 h).1; omega)]
    · rw [if_neg c1]
      by_cases c2 : rd q i > 32767
      · rw [if_pos c2, if_neg (fun h => by have := (hf.1 h).1; omega)]
      · rw [if_neg c2, w64_in _ (by omega)]
        rw [show ((i : Int) + 1) = ((i + 1 : Nat) : Int) by omega, ih k (i + 1) (by omega) (by omega) (by omega)]
        by_cases c3 : Fair (q.drop (i + 1))
        · rw [if_pos c3, if_pos (hf.2 ⟨by omega, c3⟩)]
        · rw [if_neg c3, if_neg (fun h => c3 (hf.1 h).2)]
/-- The step, and the error, of steps and a gain. -/
def mayv (q : List Int) (g : Int) : Int × Int := if (q.length : Int) > 120 then (0, 2) else if g < 0 ∨ g > 240 then (0, 1) else if Fair q then (expv (32 * g), 0) else (0, 1)
theorem may_f (q : List Int) (g : Int) : gain_may.f 130 (q.length : Int) q g = some (mayv q g) := by
  unfold gain_may.f mayv
  by_cases h : (q.length : Int) > 120
  · rw [if_pos h, if_pos h]; rfl
  · rw [if_neg h, if_neg h, decide_eq_false h]
    simp only [gain_may.j0]
    rw [if_neg (by decide)]
    by_cases hg : g < 0 ∨ g > 240
    · rw [if_pos hg, step_no g hg]
      rfl
    · have hb := step_bd (32 * g) (by omega) (by omega)
      rw [if_neg hg, step_f g (by omega) (by omega)]
      simp only [Option.bind_some, if_true]
      rw [show ((q.length : Int) != (q.length : Int)) = false by simp]
      simp only [gain_may.j1]
      rw [if_neg (by decide)]
      have := may_loop q (expv (32 * g)) (by omega) (by omega) q.length 128 0 (by omega) (by omega) (by omega)
      rw [List.drop_zero] at this
      exact this
def Bits (r : List Int) : Prop := ∀ b ∈ r, b = 0 ∨ b = 1
instance (r : List Int) : Decidable (Bits r) := by unfold Bits; infer_instance
def lastOk (q rests : List Int) (noise lines c : Int) : Bool := decide ((rests.length : Int) ≤ c ∧ noise ≥ 0 ∧ noise ≤ 7 ∧ lines ≥ 0 ∧ lines ≤ (q.length : Int))
theorem res_loop1 (q rests : List Int) (noise lines c : Int) (hl : rests.length ≤ 9223372036854775000) (d : Nat) : ∀ (k i : Nat), i ≤ rests.length → rests.length - i = d → d < k →
    gain_restorable.l1 k q rests noise lines c rests (rests.length : Int) i = some (decide (Bits (rests.drop i)) && lastOk q rests noise lines c) := by
  induction d with
  | zero =>
    intro k i h1 hd hk
    obtain ⟨k, rfl⟩ : ∃ m, k = m + 1 := ⟨k - 1, by omega⟩
    have e : rests.drop i = [] := List.drop_eq_nil_of_le (by omega)
    rw [e, decide_eq_true (show Bits [] by intro x hx; simp at hx)]
    simp only [gain_restorable.l1]
    rw [if_neg (by omega)]
    unfold lastOk
    by_cases c1 : (rests.length : Int) ≤ c
    · rw [if_pos c1]
      by_cases c2 : noise ≥ 0
      · rw [if_pos c2]
        by_cases c3 : noise ≤ 7
        · rw [if_pos c3]
          by_cases c4 : lines ≥ 0
          · rw [if_pos c4]; simp [c1, c2, c3, c4]
          · rw [if_neg c4]; simp [c4]
        · rw [if_neg c3]; simp [c3]
      · rw [if_neg c2]; simp [c2]
    · rw [if_neg c1]; simp [c1]
  | succ d ih =>
    intro k i h1 hd hk
    obtain ⟨k, rfl⟩ : ∃ m, k = m + 1 := ⟨k - 1, by omega⟩
    have hi : i < rests.length := by omega
    have e : rests.drop i = rd rests i :: rests.drop (i + 1) := by
      rw [List.drop_eq_getElem_cons hi]
      congr 1
      unfold rd
      rw [List.getD_eq_getElem?_getD, Int.toNat_natCast, List.getElem?_eq_getElem hi]; rfl
    have hf : Bits (rests.drop i) ↔ (rd rests i = 0 ∨ rd rests i = 1) ∧ Bits (rests.drop (i + 1)) := by
      rw [e]; unfold Bits
      simp
    have hrec := ih k (i + 1) (by omega) (by omega) (by omega)
    simp only [gain_restorable.l1]
    rw [if_pos (by omega), if_pos (by omega), if_pos (by omega), w64_in ((i : Int) + 1) (by omega), show ((i : Int) + 1) = ((i + 1 : Nat) : Int) by omega, hrec]
    by_cases c1 : rd rests i = 0
    · rw [if_pos c1]
      have : decide (Bits (rests.drop i)) = decide (Bits (rests.drop (i + 1))) := by rw [decide_eq_decide]; rw [hf]; simp [c1]
      rw [this]
    · rw [if_neg c1]
      by_cases c2 : rd rests i = 1
      · rw [if_pos c2]
        have : decide (Bits (rests.drop i)) = decide (Bits (rests.drop (i + 1))) := by rw [decide_eq_decide]; rw [hf]; simp [c2]
        rw [this]
      · rw [if_neg c2, decide_eq_false (fun h => by have := (hf.1 h).1; omega)]
        rfl
theorem nzc_le (q : List Int) (i : Nat) : nzc q i ≤ i := by
  induction i with
  | zero => exact Nat.le_refl _
  | succ i ih => simp only [nzc]; split <;> omega
theorem res_loop0 (q rests : List Int) (noise lines : Int) (hq : q.length ≤ 120) (hl : rests.length ≤ 9223372036854775000) (d : Nat) : ∀ (k i : Nat), i ≤ q.length → q.length - i = d → d + rests.length + 1 < k →
    gain_restorable.l0 k q rests noise lines (nzc q i : Int) q (q.length : Int) i = some (decide (Bits rests) && lastOk q rests noise lines (nzc q q.length)) := by
  induction d with
  | zero =>
    intro k i h1 hd hk
    obtain ⟨k, rfl⟩ : ∃ m, k = m + 1 := ⟨k - 1, by omega⟩
    obtain rfl : i = q.length := by omega
    simp only [gain_restorable.l0]
    rw [if_neg (by omega)]
    have := res_loop1 q rests noise lines (nzc q q.length) hl rests.length k 0 (by omega) (by omega) (by omega)
    rw [List.drop_zero] at this
    exact this
  | succ d ih =>
    intro k i h1 hd hk
    obtain ⟨k, rfl⟩ : ∃ m, k = m + 1 := ⟨k - 1, by omega⟩
    have hrec := ih k (i + 1) (by omega) (by omega) (by omega)
    have hn := nzc_le q i
    simp only [gain_restorable.l0]
    rw [if_pos (by omega), if_pos (by omega), if_pos (by omega), w64_in ((i : Int) + 1) (by omega), w64_in ((nzc q i : Int) + 1) (by omega), show ((i : Int) + 1) = ((i + 1 : Nat) : Int) by omega]
    by_cases c1 : rd q i = 0
    · rw [if_pos c1]
      have : nzc q (i + 1) = nzc q i := by simp only [nzc]; rw [if_pos c1]
      rw [this] at hrec
      exact hrec
    · rw [if_neg c1]
      have : nzc q (i + 1) = nzc q i + 1 := by simp only [nzc]; rw [if_neg c1]
      rw [this] at hrec
      exact hrec
theorem res_f (q rests : List Int) (noise lines : Int) (hq : q.length ≤ 120) (hl : rests.length ≤ 9223372036854775000) :
    gain_restorable.f (q.length + rests.length + 3) q rests noise lines = some (decide (Bits rests) && lastOk q rests noise lines (nzc q q.length)) :=
  res_loop0 q rests noise lines hq hl q.length _ 0 (by omega) (by omega) (by omega)
/-- What gain.Restore answers. -/
def restv (q : List Int) (g : Int) (rests : List Int) (noise lines : Int) : List Int × Int :=
  if (q.length : Int) > 120 then ([], 2) else if g < 0 ∨ g > 240 then ([], 1) else if Fair q then
    (if (decide (Bits rests) && lastOk q rests noise lines (nzc q q.length)) = true then (tab q.length (rv q (expv (32 * g)) rests noise lines (dsum q q.length)), 0) else ([], 1)) else ([], 1)
theorem reads_of_C {w : World} {A : Option Addr} {n : Nat} {xs : List Int} (h : Kd.C (Kd.int .i64) w A n xs) : ReadsOf (Value.int .i64) 0 w A n xs := by
  refine ⟨h.1, h.2.1, fun hn => ?_⟩
  obtain ⟨ad, rfl, hc⟩ := h.2.2 hn
  refine ⟨ad, rfl, fun j hj => ?_⟩
  have hl : j < xs.length := by have := h.1; omega
  obtain ⟨c, h1, h2, h3⟩ := hc j xs[j] (List.getElem?_eq_getElem hl)
  have h2 : c = [Value.int .i64 xs[j]] := h2
  subst h2
  have h3 := h3 0 (Value.int .i64 xs[j]) rfl
  have e : j * (Kd.int .i64).sz + 0 = j := by show j * 1 + 0 = j; omega
  rw [e] at h3
  rw [h3, List.getD_eq_getElem?_getD, List.getElem?_eq_getElem hl]; rfl
theorem restore_any (Aq Ar : Option Addr) (cq cr : Nat) (q rests : List Int) (g noise lines : Int) (w : World) (hrq : Kd.C (Kd.int .i64) w Aq q.length q) (hcq : q.length ≤ cq) (hrr : Kd.C (Kd.int .i64) w Ar rests.length rests) (hcr : rests.length ≤ cr) (hl : rests.length ≤ 9223372036854775000) :
    Calls Try.prog 10 #[.slice Aq q.length cq, .int .i64 g, .slice Ar rests.length cr, .int .i64 noise, .int .i64 lines] w fun e w' => ∃ v : Value, e = .returned (.tuple #[v, .int .i64 (restv q g rests noise lines).2]) ∧ Kd.R (Kd.int .i32) 21 w' w.heap.size (fun _ => True) v (restv q g rests noise lines).1 ∧ Below w.heap.size w w' := by
  have hm := may_f q g
  have hmay := fun s e (h : mayv q g = (s, e)) => gain_may.calls 130 (q.length : Int) Aq cq q g s e w hrq hcq (by rw [hm, h])
  have nil_ : ∀ e : Int, Calls Try.prog 10 #[.slice Aq q.length cq, .int .i64 g, .slice Ar rests.length cr, .int .i64 noise, .int .i64 lines] w (fun x w' => x = .returned (.tuple #[.slice none 0 0, .int .i64 e]) ∧ Drawn0 w w') → restv q g rests noise lines = ([], e) →
      Calls Try.prog 10 #[.slice Aq q.length cq, .int .i64 g, .slice Ar rests.length cr, .int .i64 noise, .int .i64 lines] w fun e w' => ∃ v : Value, e = .returned (.tuple #[v, .int .i64 (restv q g rests noise lines).2]) ∧ Kd.R (Kd.int .i32) 21 w' w.heap.size (fun _ => True) v (restv q g rests noise lines).1 ∧ Below w.heap.size w w' := by
    intro e h1 h2
    rw [h2]
    exact h1.mono fun x w' hh => ⟨_, hh.1, Kd.R_nil _ _ _ _ _, hh.2.below⟩
  by_cases h : (q.length : Int) > 120
  · refine nil_ 2 (restore_no1 Aq Ar cq cr q.length rests.length g noise lines 2 w (by decide) (hmay 0 2 ?_)) ?_
    · unfold mayv; rw [if_pos h]
    · unfold restv; rw [if_pos h]
  · by_cases hg : g < 0 ∨ g > 240
    · refine nil_ 1 (restore_no1 Aq Ar cq cr q.length rests.length g noise lines 1 w (by decide) (hmay 0 1 ?_)) ?_
      · unfold mayv; rw [if_neg h, if_pos hg]
      · unfold restv; rw [if_neg h, if_pos hg]
    · by_cases hf : Fair q
      · have hb := step_bd (32 * g) (by omega) (by omega)
        have hmy := hmay (expv (32 * g)) 0 (by unfold mayv; rw [if_neg h, if_neg hg, if_pos hf])
        have hr := res_f q rests noise lines (by omega) hl
        have hres : ∀ (b : Bool), (decide (Bits rests) && lastOk q rests noise lines (nzc q q.length)) = b → ∀ n : Nat, Calls Try.prog 42 #[.slice Aq q.length cq, .slice Ar rests.length cr, .int .i64 noise, .int .i64 lines] (w.drewN n) fun e w' => e = .returned (.bool b) ∧ Drawn0 (w.drewN n) w' := by
          intro b hbb n
          exact gain_restorable.calls _ Aq cq q Ar cr rests noise lines b (w.drewN n) (Kd.C_drewN hrq n) hcq (Kd.C_drewN hrr n) hcr (by rw [hr, hbb])
        by_cases hok : (decide (Bits rests) && lastOk q rests noise lines (nzc q q.length)) = true
        · have e : restv q g rests noise lines = (tab q.length (rv q (expv (32 * g)) rests noise lines (dsum q q.length)), 0) := by
            unfold restv; rw [if_neg h, if_neg hg, if_pos hf, if_pos hok]
          rw [e]
          simp only [Bool.and_eq_true, decide_eq_true_eq] at hok
          have hlast := hok.2
          unfold lastOk at hlast
          rw [decide_eq_true_eq] at hlast
          exact restore_walk Aq Ar cq cr q rests g noise lines (expv (32 * g)) w hrq hcq (reads_of_C hrr) hcr hf (by omega) hb.1 hb.2 ⟨hlast.2.1, hlast.2.2.1⟩ hok.1 hmy (hres true (by simp [hok.1, hok.2]))
        · refine nil_ 1 (restore_no2 Aq Ar cq cr q.length rests.length g noise lines (expv (32 * g)) w hmy (hres false (by simpa using hok))) ?_
          unfold restv; rw [if_neg h, if_neg hg, if_pos hf, if_neg hok]
      · refine nil_ 1 (restore_no1 Aq Ar cq cr q.length rests.length g noise lines 1 w (by decide) (hmay 0 1 ?_)) ?_
        · unfold mayv; rw [if_neg h, if_neg hg, if_neg hf]
        · unfold restv; rw [if_neg h, if_neg hg, if_neg hf]
end Go.Proofs.YtojlgjdebokelabH
