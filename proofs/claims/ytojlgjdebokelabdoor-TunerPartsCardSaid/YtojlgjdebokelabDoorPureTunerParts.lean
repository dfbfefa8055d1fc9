/- TunerParts: for all samples and every wave the law returns true: the parts, the power and the strongest wave are the document's; no condition. -/
import Derived.Test.YtojlgjdebokelabDoorPTunerPartsx2
namespace Go.Proofs.YtojlgjdebokelabDoor.Pure
open Go.RowKit Go.Proofs.YtojlgjdebokelabDoor.PTunerParts Go.Proofs.YtojlgjdebokelabDoorW.PrintWords Go.Proofs.YtojlgjdebokelabDoorW.PrintLast
open Go.Proofs.YtojlgjdebokelabDoorH
theorem wf16 {x : Int} (h : (Lit.int .i16 x).wf = true) : -32768 ≤ x ∧ x ≤ 32767 := by
  have e1 : IntKind.i16.min = -32768 := by decide
  have e2 : IntKind.i16.max = 32767 := by decide
  simp only [Lit.wf, e1, e2, decide_eq_true_eq, Bool.and_eq_true] at h
  omega
theorem sinv_mod (n d : Int) : sinv (n % d) d = sinv n d := by
  unfold sinv
  rw [Int.emod_emod_of_dvd _ (Int.dvd_refl d)]
theorem cosine_f (k : Nat) (n d : Int) (hk : 1 ≤ k) (h1 : 1 ≤ d) (h2 : d ≤ 100) : wave_Cosine.f k n d = some (sinv (4 * (n % d) + d) (4 * d), 0) := by
  obtain ⟨k, rfl⟩ : ∃ m, k = m + 1 := ⟨k - 1, by omega⟩
  have hm0 : 0 ≤ n % d := Int.emod_nonneg _ (by omega)
  have hm1 : n % d < d := Int.emod_lt_of_pos _ (by omega)
  unfold wave_Cosine.f
  rw [if_neg (by omega), decide_eq_false (by omega)]
  simp only [wave_Cosine.j0]
  unfold wave_modulo.f wave_sine.f
  rw [if_neg (by decide), if_pos (by omega), if_pos (by omega)]
  simp only [Option.bind_some]
  have e1 : wrap64 (4 * d) = 4 * d := by unfold wrap64; omega
  have e2 : wrap64 (4 * (n % d)) = 4 * (n % d) := by unfold wrap64; omega
  have e3 : wrap64 (4 * (n % d) + d) = 4 * (n % d) + d := by unfold wrap64; omega
  rw [e1, e2, e3, if_pos (by omega), if_pos (by omega)]
  rfl
theorem sine_f (n d : Int) (h1 : 1 ≤ d) (h2 : d ≤ 100) : wave_Sine.f n d = some (sinv (n % d) d, 0) := by
  unfold wave_Sine.f wave_sine.f
  rw [if_neg (by omega), if_neg (by omega), if_pos (by omega), if_pos (by omega), sinv_mod]
  rfl
def cs (l : List Int) (a1 a2 : Int) : Int := rnd (accN l (fcos a1 a2) l.length) 15
def sn (l : List Int) (a1 a2 : Int) : Int := rnd (accN l (fsin a1 a2) l.length) 15
theorem round_f (l : List Int) (f : Nat → Int) (n : Nat) : fix_Round.f (accN l f n) 15 = some (rnd (accN l f n) 15) := by
  have := accN_bd l f n
  unfold fix_Round.f
  rw [if_pos this.1, if_pos this.2]
theorem parts_l0 (l : List Int) (a1 a2 : Int) (hl : l.length ≤ 200) (h16 : I16l l) (h1 : 1 ≤ a2) (h2 : a2 ≤ 100) (h3 : 0 ≤ a1) (h4 : a1 ≤ a2) (d : Nat) :
    ∀ (k n : Nat), n + d = l.length → d + 1 < k → tuner_Parts.l0 k a1 a2 (accN l (fcos a1 a2) n) (accN l (fsin a1 a2) n) l (l.length : Int) (n : Int) = some (cs l a1 a2, sn l a1 a2, 0) := by
  induction d with
  | zero =>
    intro k n hn hk
    obtain ⟨k, rfl⟩ : ∃ m, k = m + 1 := ⟨k - 1, by omega⟩
    obtain rfl : n = l.length := by omega
    simp only [tuner_Parts.l0]
    rw [if_neg (by omega), round_f, round_f]
    rfl
  | succ d ih =>
    intro k n hn hk
    obtain ⟨k, rfl⟩ : ∃ m, k = m + 1 := ⟨k - 1, by omega⟩
    have hx := h16 _ (rd_mem l (n : Int) (by omega) (by omega))
    have e1 : wrap64 ((n : Int) + 1) = ((n + 1 : Nat) : Int) := by unfold wrap64; omega
    have hp1 : (n : Int) * a1 ≤ 20000 := by
      have := Int.mul_le_mul (show (n : Int) ≤ 200 by omega) (show a1 ≤ 100 by omega) h3 (by omega : (0:Int) ≤ 200)
      omega
    have hp0 : 0 ≤ (n : Int) * a1 := Int.mul_nonneg (by omega) h3
    have e2 : wrap64 ((n : Int) * a1) = (n : Int) * a1 := by unfold wrap64; omega
    have e3 : wrap64 (rd l (n : Int)) = rd l (n : Int) := by unfold wrap64; omega
    have b1 := sinv_bd (4 * ((n : Int) * a1 % a2) + a2) (4 * a2)
    have b2 := sinv_bd ((n : Int) * a1 % a2) a2
    have e4 : wrap64 (sinv (4 * ((n : Int) * a1 % a2) + a2) (4 * a2)) = sinv (4 * ((n : Int) * a1 % a2) + a2) (4 * a2) := by unfold wrap64; omega
    have e5 : wrap64 (sinv ((n : Int) * a1 % a2) a2) = sinv ((n : Int) * a1 % a2) a2 := by unfold wrap64; omega
    simp only [tuner_Parts.l0]
    rw [if_pos (by omega), if_pos (by omega), if_pos (by omega), e2, cosine_f k _ _ (by omega) h1 h2, sine_f _ _ h1 h2]
    simp only [Option.bind_some]
    have q1 : accN l (fcos a1 a2) (n + 1) = wrap64 (accN l (fcos a1 a2) n + wrap64 (rd l (n : Int) * sinv (4 * ((n : Int) * a1 % a2) + a2) (4 * a2))) := rfl
    have q2 : accN l (fsin a1 a2) (n + 1) = wrap64 (accN l (fsin a1 a2) n + wrap64 (rd l (n : Int) * sinv ((n : Int) * a1 % a2) a2)) := rfl
    rw [e1, e3, e4, e5, ← q1, ← q2]
    exact ih k (n + 1) (by omega) (by omega)
def okP (l : List Int) (a1 a2 : Int) : Prop := l.length ≤ 200 ∧ I16l l ∧ 1 ≤ a2 ∧ a2 ≤ 100 ∧ 0 ≤ a1 ∧ a1 ≤ a2
theorem may_ok {l : List Int} {a1 a2 : Int} (h : okP l a1 a2) : tuner_may.f l a1 a2 = some 0 := by
  obtain ⟨p1, p2, p3, p4, p5, p6⟩ := h
  unfold tuner_may.f
  rw [if_neg (by omega), if_neg (by omega), if_neg (by omega), if_neg (by omega), if_neg (by omega)]
theorem parts_f {l : List Int} {a1 a2 : Int} (h : okP l a1 a2) (k : Nat) (hk : 300 ≤ k) : tuner_Parts.f k l a1 a2 = some (cs l a1 a2, sn l a1 a2, 0) := by
  unfold tuner_Parts.f
  rw [may_ok h]
  obtain ⟨p1, p2, p3, p4, p5, p6⟩ := h
  simp only [Option.bind_some, if_true]
  exact parts_l0 l a1 a2 p1 p2 p3 p4 p5 p6 l.length k 0 (by omega) (by omega)
/-- The power of a wave. -/
def pw (l : List Int) (a2 : Int) (a1 : Int) : Int := IntKind.u64.wrap (wrap64 (wrap64 (cs l a1 a2 * cs l a1 a2) + wrap64 (sn l a1 a2 * sn l a1 a2)))
theorem power_f {l : List Int} {a1 a2 : Int} (h : okP l a1 a2) (k : Nat) (hk : 300 ≤ k) : tuner_Power.f k l a1 a2 = some (pw l a2 a1, 0) := by
  unfold tuner_Power.f
  rw [parts_f h k hk]
  rfl
theorem ref_parts {l : List Int} {a1 a2 : Int} (h : okP l a1 a2) : psalteryref37_Parts.f l a1 a2 = some (cs l a1 a2, sn l a1 a2) := by
  obtain ⟨p1, p2, p3, p4, p5, p6⟩ := h
  unfold psalteryref37_Parts.f
  rw [if_pos ⟨by omega, p2, p3, by omega, p5, p6⟩]
  rfl
theorem ref_power {l : List Int} {a1 a2 : Int} (h : okP l a1 a2) : psalteryref37_Power.f l a1 a2 = some (pw l a2 a1) := by
  unfold psalteryref37_Power.f
  rw [ref_parts h]
  simp only [Option.bind_some, Option.some.injEq]
  unfold pw
  generalize cs l a1 a2 * cs l a1 a2 = x
  generalize sn l a1 a2 * sn l a1 a2 = y
  rw [IntKind.wrap_u64, IntKind.wrap_u64, IntKind.wrap_u64, IntKind.wrap_u64]
  unfold wrap64
  omega
/-- The first of the greatest of P from 1 to h. -/
def Top (P : Int → Int) (h r : Int) : Prop := (h < 1 ∧ r = 0) ∨ (1 ≤ r ∧ r ≤ h ∧ ∀ j, 1 ≤ j → j ≤ h → P j ≤ P r ∧ (P j = P r → r ≤ j))
theorem Top.uniq {P : Int → Int} {h r r' : Int} (a : Top P h r) (b : Top P h r') : r = r' := by
  rcases a with ⟨a1, a2⟩ | ⟨a1, a2, a3⟩ <;> rcases b with ⟨b1, b2⟩ | ⟨b1, b2, b3⟩
  · omega
  · omega
  · omega
  · have x := a3 r' b1 b2
    have y := b3 r a1 a2
    have e : P r = P r' := by omega
    have := x.2 e.symm
    have := y.2 e
    omega
theorem up_l0 (l : List Int) (a2 : Int) (hl : l.length ≤ 200) (h16 : I16l l) (h1 : 1 ≤ a2) (h2 : a2 ≤ 100) (d : Nat) :
    ∀ (k : Nat) (best top i : Int), 1 ≤ i → i + d = a2 / 2 + 1 → 300 + d < k →
      ((i = 1 ∧ best = 0) ∨ (1 ≤ best ∧ best < i ∧ top = pw l a2 best ∧ ∀ j, 1 ≤ j → j < i → pw l a2 j ≤ pw l a2 best ∧ (pw l a2 j = pw l a2 best → best ≤ j))) →
      ∃ r, tuner_Strongest.l0 k l a2 best top i = some (r, 0) ∧ Top (pw l a2) (a2 / 2) r := by
  have et : wrap64 (Int.tdiv a2 2) = a2 / 2 := by
    rw [Int.tdiv_eq_ediv_of_nonneg (by omega)]; unfold wrap64; omega
  induction d with
  | zero =>
    intro k best top i hi hd hk hI
    obtain ⟨k, rfl⟩ : ∃ m, k = m + 1 := ⟨k - 1, by omega⟩
    refine ⟨best, ?_, ?_⟩
    · simp only [tuner_Strongest.l0]; rw [et, if_neg (by omega)]
    · rcases hI with ⟨e1, e2⟩ | ⟨e1, e2, e3, e4⟩
      · exact .inl ⟨by omega, e2⟩
      · exact .inr ⟨e1, by omega, fun j h1 h2 => e4 j h1 (by omega)⟩
  | succ d ih =>
    intro k best top i hi hd hk hI
    obtain ⟨k, rfl⟩ : ∃ m, k = m + 1 := ⟨k - 1, by omega⟩
    have hok : okP l i a2 := ⟨hl, h16, h1, h2, by omega, by omega⟩
    have ew : wrap64 (i + 1) = i + 1 := by unfold wrap64; omega
    simp only [tuner_Strongest.l0]
    rw [et, if_pos (by omega), power_f hok k (by omega)]
    simp only [Option.bind_some]
    rw [ew]
    rcases hI with ⟨e1, e2⟩ | ⟨e1, e2, e3, e4⟩
    · rw [if_pos e2]
      exact ih k i _ (i + 1) (by omega) (by omega) (by omega) (.inr ⟨hi, by omega, rfl, fun j h1 h2 => by
        obtain rfl : j = i := by omega
        exact ⟨Int.le_refl _, fun _ => Int.le_refl _⟩⟩)
    · rw [if_neg (by omega)]
      by_cases hg : pw l a2 i > top
      · rw [if_pos hg]
        refine ih k i _ (i + 1) (by omega) (by omega) (by omega) (.inr ⟨hi, by omega, rfl, fun j h1 h2 => ?_⟩)
        by_cases hj : j = i
        · subst hj; exact ⟨Int.le_refl _, fun _ => Int.le_refl _⟩
        · have := (e4 j h1 (by omega)).1
          exact ⟨by omega, fun e => by omega⟩
      · rw [if_neg hg]
        refine ih k best _ (i + 1) (by omega) (by omega) (by omega) (.inr ⟨e1, by omega, e3, fun j h1 h2 => ?_⟩)
        by_cases hj : j = i
        · subst hj; exact ⟨by omega, fun _ => by omega⟩
        · exact e4 j h1 (by omega)
theorem down_l0 (l : List Int) (a2 : Int) (hl : l.length ≤ 200) (h16 : I16l l) (h1 : 1 ≤ a2) (h2 : a2 ≤ 100) (d : Nat) :
    ∀ (k : Nat) (best i : Int), i = d → i ≤ a2 / 2 → d < k →
      ((i = a2 / 2 ∧ best = 0) ∨ (i < best ∧ best ≤ a2 / 2 ∧ ∀ j, i < j → j ≤ a2 / 2 → pw l a2 j ≤ pw l a2 best ∧ (pw l a2 j = pw l a2 best → best ≤ j))) →
      ∃ r, psalteryref37_Strongest.l0 k l a2 best i = some r ∧ Top (pw l a2) (a2 / 2) r := by
  induction d with
  | zero =>
    intro k best i hd hi hk hI
    obtain ⟨k, rfl⟩ : ∃ m, k = m + 1 := ⟨k - 1, by omega⟩
    refine ⟨best, ?_, ?_⟩
    · simp only [psalteryref37_Strongest.l0]; rw [if_neg (by omega)]
    · rcases hI with ⟨e1, e2⟩ | ⟨e1, e2, e4⟩
      · exact .inl ⟨by omega, e2⟩
      · exact .inr ⟨by omega, by omega, fun j h1 h2 => e4 j (by omega) (by omega)⟩
  | succ d ih =>
    intro k best i hd hi hk hI
    obtain ⟨k, rfl⟩ : ∃ m, k = m + 1 := ⟨k - 1, by omega⟩
    have hok : okP l i a2 := ⟨hl, h16, h1, h2, by omega, by omega⟩
    have ew : wrap64 (i - 1) = i - 1 := by unfold wrap64; omega
    simp only [psalteryref37_Strongest.l0]
    rw [if_pos (by omega)]
    rcases hI with ⟨e1, e2⟩ | ⟨e1, e2, e4⟩
    · rw [if_pos e2, ew]
      exact ih k i (i - 1) (by omega) (by omega) (by omega) (.inr ⟨by omega, hi, fun j h1 h2 => by
        obtain rfl : j = i := by omega
        exact ⟨Int.le_refl _, fun _ => Int.le_refl _⟩⟩)
    · have hok2 : okP l best a2 := ⟨hl, h16, h1, h2, by omega, by omega⟩
      rw [if_neg (by omega), ref_power hok, ref_power hok2]
      simp only [Option.bind_some]
      rw [ew]
      by_cases hg : pw l a2 i ≥ pw l a2 best
      · rw [if_pos hg]
        refine ih k i (i - 1) (by omega) (by omega) (by omega) (.inr ⟨by omega, hi, fun j h1 h2 => ?_⟩)
        by_cases hj : j = i
        · subst hj; exact ⟨Int.le_refl _, fun _ => Int.le_refl _⟩
        · have := (e4 j (by omega) h2).1
          exact ⟨by omega, fun _ => by omega⟩
      · rw [if_neg hg]
        refine ih k best (i - 1) (by omega) (by omega) (by omega) (.inr ⟨by omega, e2, fun j h1 h2 => ?_⟩)
        by_cases hj : j = i
        · subst hj; exact ⟨by omega, fun e => by omega⟩
        · exact e4 j (by omega) h2
theorem refmay (l : List Int) (a1 a2 : Int) : psalteryref37_May.f l a1 a2 = tuner_may.f l a1 a2 := rfl
theorem may_some (l : List Int) (a1 a2 : Int) : ∃ m, tuner_may.f l a1 a2 = some m ∧ (m = 0 → l.length ≤ 4096 ∧ 1 ≤ a2 ∧ a2 ≤ 4096 ∧ 0 ≤ a1 ∧ a1 ≤ a2) := by
  unfold tuner_may.f
  by_cases c1 : (l.length : Int) > 4096
  · exact ⟨2, if_pos c1, fun h => by omega⟩
  rw [if_neg c1]
  by_cases c2 : a2 < 1
  · exact ⟨1, if_pos c2, fun h => by omega⟩
  rw [if_neg c2]
  by_cases c3 : a2 > 4096
  · exact ⟨1, if_pos c3, fun h => by omega⟩
  rw [if_neg c3]
  by_cases c4 : a1 < 0
  · exact ⟨1, if_pos c4, fun h => by omega⟩
  rw [if_neg c4]
  by_cases c5 : a1 > a2
  · exact ⟨1, if_pos c5, fun h => by omega⟩
  rw [if_neg c5]
  exact ⟨0, rfl, fun _ => by omega⟩
theorem last_true (l : List Int) (a2 : Int) (h16 : I16l l) (hg1 : (l.length : Int) ≤ 200 ∨ 4096 < (l.length : Int)) (hg2 : a2 ≤ 100 ∨ 4096 < a2) (k : Nat) (hk : 500 ≤ k) : psalterylaw37_TunerParts.j2 k l a2 = some true := by
  obtain ⟨k, rfl⟩ : ∃ m, k = m + 1 := ⟨k - 1, by omega⟩
  obtain ⟨m, hm, hm0⟩ := may_some l 0 a2
  simp only [psalterylaw37_TunerParts.j2]
  rw [refmay]
  unfold tuner_Strongest.f psalteryref37_Strongest.f
  rw [hm]
  simp only [Option.bind_some]
  by_cases e : m = 0
  · obtain ⟨p1, p2, p3, p4, p5⟩ := hm0 e
    have hl : l.length ≤ 200 := by omega
    have et : wrap64 (Int.tdiv a2 2) = a2 / 2 := by
      rw [Int.tdiv_eq_ediv_of_nonneg (by omega)]; unfold wrap64; omega
    rw [if_pos e]
    obtain ⟨r, hr, hT⟩ := up_l0 l a2 hl h16 p2 (by omega) (a2 / 2).toNat k 0 0 1 (by omega) (by omega) (by omega) (.inl ⟨rfl, rfl⟩)
    obtain ⟨r', hr', hT'⟩ := down_l0 l a2 hl h16 p2 (by omega) (a2 / 2).toNat k 0 (a2 / 2) (by omega) (by omega) (by omega) (.inl ⟨rfl, rfl⟩)
    rw [hr]
    simp only [Option.bind_some]
    rw [if_pos e, if_pos trivial, et, hr']
    simp [hT.uniq hT']
  · rw [if_neg e]
    simp only [Option.bind_some]
    rw [if_neg e]
    simp
theorem TunerParts : psalterylaw37_TunerParts.Pure := by
  intro l a1 a2 hl hl2 hwf w1 w2
  have h16 : I16l l := fun x hx => wf16 (hwf x hx)
  refine ⟨1000, ?_⟩
  have hj : ∀ b : Bool, (b = false → ((l.length : Int) ≤ 200 ∨ 4096 < (l.length : Int)) ∧ (a2 ≤ 100 ∨ 4096 < a2)) → psalterylaw37_TunerParts.j0 1000 l a1 a2 b = some true := by
    intro b hb
    cases b with
    | true => simp only [psalterylaw37_TunerParts.j0]; rfl
    | false =>
      obtain ⟨hg1, hg2⟩ := hb rfl
      have key : ∀ k, 998 = k → psalterylaw37_TunerParts.j0 (k + 2) l a1 a2 false = some true := by
        intro k hk
        simp only [psalterylaw37_TunerParts.j0]
        rw [if_neg (by decide), refmay]
        obtain ⟨m, hm, hm0⟩ := may_some l a1 a2
        by_cases e : m = 0
        · obtain ⟨p1, p2, p3, p4, p5⟩ := hm0 e
          have hok : okP l a1 a2 := ⟨by omega, h16, p2, by omega, p4, p5⟩
          subst e
          rw [parts_f hok _ (by omega), power_f hok _ (by omega), hm]
          simp only [Option.bind_some, if_true, psalterylaw37_TunerParts.j1]
          rw [if_neg (by simp), ref_parts hok]
          simp only [Option.bind_some, if_true]
          rw [ref_power hok]
          simp only [Option.bind_some, if_true]
          exact last_true l a2 h16 hg1 hg2 k (by omega)
        · have hp : tuner_Parts.f (k + 1) l a1 a2 = some (0, 0, m) := by
            unfold tuner_Parts.f; rw [hm]; simp only [Option.bind_some]; rw [if_neg e]
          have hq : tuner_Power.f (k + 1) l a1 a2 = some (0, m) := by
            unfold tuner_Power.f; rw [hp]; simp only [Option.bind_some]; rw [show IntKind.u64.wrap (wrap64 (wrap64 (0 * 0) + wrap64 (0 * 0))) = 0 from by decide +kernel]
          rw [hp, hq, hm]
          simp only [Option.bind_some, if_true, psalterylaw37_TunerParts.j1]
          rw [if_neg (by simp), if_neg e]
          exact last_true l a2 h16 hg1 hg2 k (by omega)
      exact key 998 rfl
  unfold psalterylaw37_TunerParts.f psalterylaw37_alive.f
  simp only [Option.bind_some, if_true]
  by_cases c1 : (l.length : Int) > 200
  · rw [if_pos c1]
    by_cases c2 : (l.length : Int) ≤ 4096
    · rw [if_pos c2]; exact hj true (fun h => by cases h)
    · rw [if_neg c2]
      by_cases c3 : a2 > 100
      · rw [if_pos c3]; exact hj _ (fun h => by simp at h; omega)
      · rw [if_neg c3]; exact hj false (fun _ => by omega)
  · rw [if_neg c1]
    by_cases c3 : a2 > 100
    · rw [if_pos c3]; exact hj _ (fun h => by simp at h; omega)
    · rw [if_neg c3]; exact hj false (fun _ => by omega)
end Go.Proofs.YtojlgjdebokelabDoor.Pure
