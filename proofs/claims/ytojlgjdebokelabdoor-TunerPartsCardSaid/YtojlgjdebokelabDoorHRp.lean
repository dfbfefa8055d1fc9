import Derived.Test.YtojlgjdebokelabDoorHOf
import Derived.Test.YtojlgjdebokelabDoorWMore
import Derived.Deep.QuietTactic
import Derived.Lib.Hide
import Derived.Outline
set_option linter.unusedVariables false
set_option linter.unusedSimpArgs false
namespace Go.Proofs.YtojlgjdebokelabDoorH
open Go.RowKit Go.Proofs.YtojlgjdebokelabDoorW.PrintWords Go.Proofs.YtojlgjdebokelabDoorW.PrintMore Go.Proofs.YtojlgjdebokelabDoorW
theorem sinv_bd (n d : Int) : -32767 ≤ sinv n d ∧ sinv n d ≤ 32767 := by
  unfold sinv
  split
  all_goals
    have := wavt_bd ((if 4 * (n % d) / d % 2 = 1 then d - 4 * (n % d) % d else 4 * (n % d) % d) * 1073741824 / d)
    omega
theorem OfQ (n d : Int) (w : World) (h1 : 1 ≤ d) (h2 : d ≤ 4194304) (h3 : d % 2 = 0 ∨ d ≤ 2097152) : Calls Tryd.prog 18 #[.int .i64 n, .int .i64 d] w fun e w' => e = .returned (.int .i16 (sinv n d)) ∧ w' = w :=
  (Of_any n d w h1 h2 h3).mono fun _ _ h => ⟨h.1, h.2.symm⟩
def I16l (l : List Int) : Prop := ∀ x ∈ l, -32768 ≤ x ∧ x ≤ 32767
instance (l : List Int) : Decidable (I16l l) := inferInstanceAs (Decidable (∀ x ∈ l, _))
def accN (l : List Int) (f : Nat → Int) : Nat → Int
  | 0 => 0
  | n + 1 => wrap64 (accN l f n + wrap64 (rd l (n : Int) * f n))
theorem accN_bd (l : List Int) (f : Nat → Int) (n : Nat) : -9223372036854775808 ≤ accN l f n ∧ accN l f n ≤ 9223372036854775807 := by
  cases n with
  | zero => unfold accN; omega
  | succ n => unfold accN wrap64; omega
def Pok (l : List Int) (a1 a2 : Int) : Prop := l.length ≤ 4096 ∧ I16l l ∧ 1 ≤ a2 ∧ a2 ≤ 4096 ∧ 0 ≤ a1 ∧ a1 ≤ a2
instance (l : List Int) (a1 a2 : Int) : Decidable (Pok l a1 a2) := inferInstanceAs (Decidable (_ ∧ _))
def fcos (a1 a2 : Int) (i : Nat) : Int := sinv (4 * ((i : Int) * a1 % a2) + a2) (4 * a2)
def fsin (a1 a2 : Int) (i : Nat) : Int := sinv ((i : Int) * a1 % a2) a2
set_option maxRecDepth 100000 in
set_option maxHeartbeats 1000000 in
theorem refparts_any (A : Option Addr) (c : Nat) (l : List Int) (a1 a2 : Int) (w : World) (hC : Kd.C (Kd.int .i16) w A l.length l) (hc : l.length ≤ c) (hl : l.length ≤ 4096) (h16 : I16l l) (h1 : 1 ≤ a2) (h2 : a2 ≤ 4096) (h3 : 0 ≤ a1) (h4 : a1 ≤ a2) :
    Calls Tryd.prog 8 #[.slice A l.length c, .int .i64 a1, .int .i64 a2] w fun e w' => e = .returned (.tuple #[.int .i64 (rnd (accN l (fcos a1 a2) l.length) 15), .int .i64 (rnd (accN l (fsin a1 a2) l.length) 15)]) ∧ ∃ n, w' = w.drewN n := by
  have HC := Lib.hid hC
  have H16 := Lib.hid h16
  clear hC h16
  go_enter Tryd.func8, Tryd.ntmps8
  go_wp2_with fail
  go_loopg [8, 9, 10] l.length (fun gk s8 s9 s10 wr => ∃ n : Nat, n ≤ l.length ∧ gk = l.length - n ∧ s10 = .int .i64 n ∧ s8 = .int .i64 (accN l (fcos a1 a2) n) ∧ s9 = .int .i64 (accN l (fsin a1 a2) n) ∧ Hid (∃ k, wr = w.drewN k))
  case atStart => exact ⟨0, by omega, rfl, rfl, rfl, rfl, ⟨0, rfl⟩⟩
  case round =>
    obtain ⟨n, hn, rfl, rfl, rfl, rfl, hW⟩ := hrel
    by_cases hlt : n < l.length
    · have c1 : (n : Int) < (l.length : Int) := by omega
      have c0 : (0 : Int) ≤ (n : Int) := by omega
      obtain ⟨ad, e, hx⟩ := Kd.at_int HC.out (n : Int) c0 c1
      subst e
      rw [Int.toNat_natCast] at hx
      replace hx : wr.cell? (ad.add n) = some (.int .i16 (rd l (n : Int))) := by obtain ⟨k, rfl⟩ := hW.out; exact hx
      have hxb := H16.out _ (rd_mem l (n : Int) c0 c1)
      have hs1 : Hid (accN l (fcos a1 a2) (n + 1) = wrap64 (accN l (fcos a1 a2) n + wrap64 (rd l (n : Int) * sinv (4 * ((n : Int) * a1 % a2) + a2) (4 * a2)))) := rfl
      have hs2 : Hid (accN l (fsin a1 a2) (n + 1) = wrap64 (accN l (fsin a1 a2) n + wrap64 (rd l (n : Int) * sinv ((n : Int) * a1 % a2) a2))) := rfl
      generalize accN l (fcos a1 a2) n = cc at hs1 ⊢
      generalize accN l (fsin a1 a2) n = ss at hs2 ⊢
      generalize rd l (n : Int) = x at hx hxb hs1 hs2
      obtain ⟨hx0, hx1⟩ := hxb
      have hp0 : 0 ≤ (n : Int) * a1 := Int.mul_nonneg c0 h3
      have hp1 : (n : Int) * a1 ≤ 16777216 := by
        have := Int.mul_le_mul (show (n : Int) ≤ 4096 by omega) (show a1 ≤ 4096 by omega) h3 (by omega : (0:Int) ≤ 4096)
        omega
      have hm0 : 0 ≤ (n : Int) * a1 % a2 := Int.emod_nonneg _ (by omega)
      have hm1 : (n : Int) * a1 % a2 < a2 := Int.emod_lt_of_pos _ (by omega)
      have hm2 : ((n : Int) * a1).tmod a2 = (n : Int) * a1 % a2 := Int.tmod_eq_emod_of_nonneg hp0
      have hm3 : IntKind.i64.wrap ((n : Int) * a1) = (n : Int) * a1 := IntWalk.i64_in _ (by omega)
      have hm4 : IntKind.i64.wrap ((n : Int) * a1 % a2) = (n : Int) * a1 % a2 := IntWalk.i64_in _ (by omega)
      generalize hP : (n : Int) * a1 = P at hp0 hp1 hm0 hm1 hm2 hm3 hm4 hs1 hs2
      generalize hM : P % a2 = M at hm0 hm1 hm2 hm4 hs1 hs2
      have g1 : IntKind.i64.wrap (4 * M) = 4 * M := IntWalk.i64_in _ (by omega)
      have g2 : IntKind.i64.wrap (4 * M + a2) = 4 * M + a2 := IntWalk.i64_in _ (by omega)
      have g3 : IntKind.i64.wrap (4 * a2) = 4 * a2 := IntWalk.i64_in _ (by omega)
      have g4 : (a2 == 0) = false := by rw [beq_eq_false_iff_ne]; omega
      have g5 : ¬ a2 = 0 := by omega
      obtain ⟨v1, v2⟩ := sinv_bd (4 * M + a2) (4 * a2)
      obtain ⟨v3, v4⟩ := sinv_bd M a2
      go_wp2_with fail
      go_quiet ((go_at_call 18; exact Calls.quiet_of_same (OfQ (4 * M + a2) (4 * a2) _ (by omega) (by omega) (.inl (by omega)))))
      have hx2 : (wr.drewN nq).cell? (ad.add n) = some (.int .i16 x) := hx
      replace hW : Hid (∃ k, wr.drewN nq = w.drewN k) := by obtain ⟨k, rfl⟩ := hW.out; exact ⟨k + nq, World.drewN_drewN _ _ _⟩
      generalize wr.drewN nq = w2 at hx2 hW ⊢
      clear hx
      go_wp2_with fail
      go_quiet ((go_at_call 18; exact Calls.quiet_of_same (OfQ M a2 _ (by omega) (by omega) (.inr (by omega)))))
      replace hW : Hid (∃ k, w2.drewN nq = w.drewN k) := by obtain ⟨k, rfl⟩ := hW.out; exact ⟨k + nq, World.drewN_drewN _ _ _⟩
      go_wp2
      go_roundg (l.length - (n + 1))
      case measure => omega
      case rel => exact ⟨n + 1, by omega, rfl, by push_cast; rfl, by rw [hs1.out], by rw [hs2.out], hW⟩
    · obtain rfl : n = l.length := by omega
      have hc9 := Lib.hid (accN_bd l (fcos a1 a2) l.length)
      have hs9 := Lib.hid (accN_bd l (fsin a1 a2) l.length)
      generalize hcq : accN l (fcos a1 a2) l.length = cc at hc9 ⊢
      generalize hsq : accN l (fsin a1 a2) l.length = ss at hs9 ⊢
      have HCQ := Lib.hid hcq
      have HSQ := Lib.hid hsq
      clear hcq hsq
      go_wp2_with fail
      refine (rnd_any cc 15 _ hc9.out).mono ?_
      rintro e w2 ⟨rfl, rfl⟩
      go_wp2_with fail
      refine (rnd_any ss 15 _ hs9.out).mono ?_
      rintro e w2 ⟨rfl, rfl⟩
      go_wp2
      go_ret2
      exact ⟨by rw [HCQ.out, HSQ.out]; rfl, hW.out⟩
end Go.Proofs.YtojlgjdebokelabDoorH
