-- Written by wip/myprint.py, a program of this session's, over the kit's print and this session's given texts. Not trusted: Lean checks it.
import Derived.Test.YtojlgjdebokelabDoorProg
import Derived.Below
import Derived.Deep.Draws
import Derived.Deep.AppendLies
import Derived.Maps.AppendAt
import Derived.OwnWalk
import Derived.Laws.BytesArg
import Derived.Laws.MakeOwn
import Derived.Laws.OwnMore
import Derived.Deep.OwnRows
import Derived.Tactics
import Derived.Lib.ConvBytes
import Derived.Laws.Slices
import Derived.WalkKit
import Derived.KernelRfl
import Derived.RowKit3
import Derived.Deep.LoopGhost
import Derived.Deep.QuietTactic
import Derived.BigQuiet
import Derived.WideLaws
import Derived.Deep.DeepCutAuto
import Derived.Deep.CutBlock
import Derived.Deep.RegionHeld3
import Derived.Laws.Rows
import Derived.Lib.AppendStr
import Derived.ArgAppend
import Derived.Laws.IdiomCopy
import Derived.OrdersHeld
import Derived.Laws.BitsLemmas
import Derived.RowKit
import Derived.Test.YtojlgjdebokelabDoorHBits
import Derived.Test.YtojlgjdebokelabDoorHOf
import Derived.Test.YtojlgjdebokelabDoorHRound
import Derived.Test.YtojlgjdebokelabDoorHRp
import Derived.Test.YtojlgjdebokelabDoorHTun
import Derived.Test.YtojlgjdebokelabDoorHWave
import Derived.Test.YtojlgjdebokelabDoorWWords
import Derived.Test.YtojlgjdebokelabDoorWLast
import Derived.Test.YtojlgjdebokelabDoorWTab
import Derived.Test.YtojlgjdebokelabDoorWFour
import Derived.Test.YtojlgjdebokelabDoorWQPut
import Derived.Test.YtojlgjdebokelabDoorWApart
import Derived.Test.YtojlgjdebokelabDoorWArr
import Derived.Test.YtojlgjdebokelabDoorWZeros
import Derived.Test.YtojlgjdebokelabDoorWFoot
import Derived.Test.YtojlgjdebokelabDoorWKept
import Derived.Test.YtojlgjdebokelabDoorWShare
import Derived.Test.YtojlgjdebokelabDoorWN
import Derived.Test.YtojlgjdebokelabDoorWFootNe
import Derived.Test.YtojlgjdebokelabDoorWAt
import Derived.Test.YtojlgjdebokelabDoorWEqStruct
import Derived.Test.YtojlgjdebokelabDoorWRepsOne
import Derived.Test.YtojlgjdebokelabDoorWInv
import Derived.Test.YtojlgjdebokelabDoorWInvWords
import Derived.Test.YtojlgjdebokelabDoorWGuard
import Derived.Test.YtojlgjdebokelabDoorWNEv
import Derived.Test.YtojlgjdebokelabDoorWMore
namespace Go.Proofs.YtojlgjdebokelabDoor.PTunerParts
open Go.RowKit Go.Proofs.YtojlgjdebokelabDoorW.PrintWords Go.Proofs.YtojlgjdebokelabDoorW.PrintLast Go.Proofs.YtojlgjdebokelabDoorW.PrintMore
attribute [local go_sem] max2_int min2_int max_two min_two max_three min_three max_four min_four   -- for this text's walks alone
set_option linter.unusedVariables false
set_option linter.unusedSimpArgs false



def errW : Option Int → Value
  | none => .nilIface
  | some c => .iface 0 (.int .i64 c)
theorem errW_none : errW none = .nilIface := rfl
theorem errW_some (c : Int) : errW (some c) = .iface 0 (.int .i64 c) := rfl

theorem info42 : (Tryd.prog.info? 42).map (fun i => (i.zero, i.size, i.bytes)) = some (some (.int .i16 0), 1, 2) := by kernel_rfl
-- the values' own types
def rd_L5 (xs : List (List Int)) (i : Int) : (List Int) := xs.getD i.toNat ([] : List Int)
theorem at_L5 {w : World} {A : Option Addr} {n : Nat} {xs : List (List Int)} (h : Kd.C (Kd.slice 42 (Kd.int .i16)) w A n xs) (i : Int) (h0 : 0 ≤ i) (h1 : i < n) : ∃ ad A0 c0, A = some ad ∧ w.cell? (ad.add i.toNat) = some (.slice A0 (rd_L5 xs i).length c0) ∧ (rd_L5 xs i).length ≤ c0 ∧ (Kd.int .i16).C w A0 (rd_L5 xs i).length (rd_L5 xs i) := by
  obtain ⟨ad, c, e, _, hK, hc0⟩ := Kd.C_get h ([] : List Int) i h0 h1
  have hc : ∀ j u, c[j]? = some u → w.cell? (ad.add (i.toNat * 1 + j)) = some u := hc0
  obtain ⟨A0, c0, rfl, l0, g0⟩ := hK
  exact ⟨ad, A0, c0, e, by have hq := hc 0 _ rfl; rwa [Nat.mul_one, Nat.add_zero] at hq, l0, g0⟩

end Go.Proofs.YtojlgjdebokelabDoor.PTunerParts
