/-
  No cell of these rows narrows 'for every input' (looked for: loops, veiled, ifaces, maps, wideKeys, modest, calm, conditions, laid).
  DERIVED. THE GIVEN ROWS OF THIS SEAT. 7 by the template 'for every input the law returns true; each argument reads behind the call as it read before'; 0 by the template 'total and deterministic' (their statements: YtojlgjdebokelaaTotals.lean).
  GIVEN WITH THE SEED: the statements are not yours to turn. If you find one false, say at which input.
  Laid BY PROGRAM, IN A SANDBOX (cutbox-rows.mjs): the forced cells as the released guide's own fill.sh prints them over the translation 9f1e5804774ea8a5… (all of the seat's roots in one cut). By AI agents, Wed Nov 11 2026. No macro, syntax, notation, axiom, sorry.
-/
import Derived.Test.YtojlgjdebokelaaChecked
import GoSem.Claim
import GoSem.ClaimJoined
import GoSem.ClaimMapViews
import Derived.JoinedTies
import Derived.KernelRfl
namespace Go.Proofs.Ytojlgjdebokelaa
/- THE CELL 'sum', in the pinned program and in every row, IS THE sha256 OF THE DUMP (.gsa) THAT YtojlgjdebokelaaProg.lean LOADS. Nothing in Lean hashes anything: it is a label: what it is worth is what the hold of that sum in a sandbox is worth. -/
noncomputable def Try.pinned : Pinned := { name := "ytojlgjdebokelaa", sum := "9f1e5804774ea8a5d13e0bf0b94daaa45029fe5e533801db5aaf9741fd8e8079", checked := Try.checked }
namespace Rows
def none {H : Type} : Left H := { results := [], args := [] }

/-- 'psalterylaw01.FixReckons': WHATEVER THE INPUT: true; the input reads as it did. -/
def fixReckonsSpec : ChangeSpec := { name := "fixReckons", fn := fun _ => fun
  | [d1, d2, d3] => { results := [.lit (.bool true)], args := [d1, d2, d3] }
  | _ => none }
def fixReckonsRow : OpenClaim := { program := "ytojlgjdebokelaa", sum := "9f1e5804774ea8a5d13e0bf0b94daaa45029fe5e533801db5aaf9741fd8e8079", func := "psaltery/psalterylaw01.FixReckons", spec := "fixReckons", apart := false }
def FixReckonsSaid : Prop := fixReckonsRow.holds Try.pinned (OpenSpec.ofChange fixReckonsSpec)

/-- ITS FALSE NEIGHBOUR: 'it returns false'. Refute it at one input. -/
def fixReckonsWrong : ChangeSpec := { name := "fixReckons", fn := fun _ => fun
  | [d1, d2, d3] => { results := [.lit (.bool false)], args := [d1, d2, d3] }
  | _ => none }
def FixReckonsWrongFalsely : Prop := fixReckonsRow.holds Try.pinned (OpenSpec.ofChange fixReckonsWrong)

/-- 'psalterylaw01.FixSums': WHATEVER THE INPUT: true; the input reads as it did. -/
def fixSumsSpec : ChangeSpec := { name := "fixSums", fn := fun _ => fun
  | [d1, d2, d3] => { results := [.lit (.bool true)], args := [d1, d2, d3] }
  | _ => none }
def fixSumsRow : OpenClaim := { program := "ytojlgjdebokelaa", sum := "9f1e5804774ea8a5d13e0bf0b94daaa45029fe5e533801db5aaf9741fd8e8079", func := "psaltery/psalterylaw01.FixSums", spec := "fixSums", apart := false }
def FixSumsSaid : Prop := fixSumsRow.holds Try.pinned (OpenSpec.ofChange fixSumsSpec)

/-- ITS FALSE NEIGHBOUR: 'it returns false'. Refute it at one input. -/
def fixSumsWrong : ChangeSpec := { name := "fixSums", fn := fun _ => fun
  | [d1, d2, d3] => { results := [.lit (.bool false)], args := [d1, d2, d3] }
  | _ => none }
def FixSumsWrongFalsely : Prop := fixSumsRow.holds Try.pinned (OpenSpec.ofChange fixSumsWrong)

/-- 'psalterylaw03.WaveSines': WHATEVER THE INPUT: true; the input reads as it did. -/
def waveSinesSpec : ChangeSpec := { name := "waveSines", fn := fun _ => fun
  | [d1, d2] => { results := [.lit (.bool true)], args := [d1, d2] }
  | _ => none }
def waveSinesRow : OpenClaim := { program := "ytojlgjdebokelaa", sum := "9f1e5804774ea8a5d13e0bf0b94daaa45029fe5e533801db5aaf9741fd8e8079", func := "psaltery/psalterylaw03.WaveSines", spec := "waveSines", apart := false }
def WaveSinesSaid : Prop := waveSinesRow.holds Try.pinned (OpenSpec.ofChange waveSinesSpec)

/-- ITS FALSE NEIGHBOUR: 'it returns false'. Refute it at one input. -/
def waveSinesWrong : ChangeSpec := { name := "waveSines", fn := fun _ => fun
  | [d1, d2] => { results := [.lit (.bool false)], args := [d1, d2] }
  | _ => none }
def WaveSinesWrongFalsely : Prop := waveSinesRow.holds Try.pinned (OpenSpec.ofChange waveSinesWrong)

/-- 'psalterylaw03.WaveTables': WHATEVER THE INPUT: true; the input reads as it did. -/
def waveTablesSpec : ChangeSpec := { name := "waveTables", fn := fun _ => fun
  | [d] => { results := [.lit (.bool true)], args := [d] }
  | _ => none }
def waveTablesRow : OpenClaim := { program := "ytojlgjdebokelaa", sum := "9f1e5804774ea8a5d13e0bf0b94daaa45029fe5e533801db5aaf9741fd8e8079", func := "psaltery/psalterylaw03.WaveTables", spec := "waveTables", apart := false }
def WaveTablesSaid : Prop := waveTablesRow.holds Try.pinned (OpenSpec.ofChange waveTablesSpec)

/-- ITS FALSE NEIGHBOUR: 'it returns false'. Refute it at one input. -/
def waveTablesWrong : ChangeSpec := { name := "waveTables", fn := fun _ => fun
  | [d] => { results := [.lit (.bool false)], args := [d] }
  | _ => none }
def WaveTablesWrongFalsely : Prop := waveTablesRow.holds Try.pinned (OpenSpec.ofChange waveTablesWrong)

/-- 'psalterylaw19.GainSteps': WHATEVER THE INPUT: true; the input reads as it did. -/
def gainStepsSpec : ChangeSpec := { name := "gainSteps", fn := fun _ => fun
  | [d1, d2] => { results := [.lit (.bool true)], args := [d1, d2] }
  | _ => none }
def gainStepsRow : OpenClaim := { program := "ytojlgjdebokelaa", sum := "9f1e5804774ea8a5d13e0bf0b94daaa45029fe5e533801db5aaf9741fd8e8079", func := "psaltery/psalterylaw19.GainSteps", spec := "gainSteps", apart := false }
def GainStepsSaid : Prop := gainStepsRow.holds Try.pinned (OpenSpec.ofChange gainStepsSpec)

/-- ITS FALSE NEIGHBOUR: 'it returns false'. Refute it at one input. -/
def gainStepsWrong : ChangeSpec := { name := "gainSteps", fn := fun _ => fun
  | [d1, d2] => { results := [.lit (.bool false)], args := [d1, d2] }
  | _ => none }
def GainStepsWrongFalsely : Prop := gainStepsRow.holds Try.pinned (OpenSpec.ofChange gainStepsWrong)

/-- 'psalterylaw02.LogsPower': WHATEVER THE INPUT: true; the input reads as it did. -/
def logsPowerSpec : ChangeSpec := { name := "logsPower", fn := fun _ => fun
  | [d] => { results := [.lit (.bool true)], args := [d] }
  | _ => none }
def logsPowerRow : OpenClaim := { program := "ytojlgjdebokelaa", sum := "9f1e5804774ea8a5d13e0bf0b94daaa45029fe5e533801db5aaf9741fd8e8079", func := "psaltery/psalterylaw02.LogsPower", spec := "logsPower", apart := false }
def LogsPowerSaid : Prop := logsPowerRow.holds Try.pinned (OpenSpec.ofChange logsPowerSpec)

/-- ITS FALSE NEIGHBOUR: 'it returns false'. Refute it at one input. -/
def logsPowerWrong : ChangeSpec := { name := "logsPower", fn := fun _ => fun
  | [d] => { results := [.lit (.bool false)], args := [d] }
  | _ => none }
def LogsPowerWrongFalsely : Prop := logsPowerRow.holds Try.pinned (OpenSpec.ofChange logsPowerWrong)

/-- 'psalterylaw33.MixerMixes': WHATEVER THE INPUT: true; the input reads as it did. -/
def mixerMixesSpec : ChangeSpec := { name := "mixerMixes", fn := fun _ => fun
  | [d1, d2, d3, d4] => { results := [.lit (.bool true)], args := [d1, d2, d3, d4] }
  | _ => none }
def mixerMixesRow : OpenClaim := { program := "ytojlgjdebokelaa", sum := "9f1e5804774ea8a5d13e0bf0b94daaa45029fe5e533801db5aaf9741fd8e8079", func := "psaltery/psalterylaw33.MixerMixes", spec := "mixerMixes", unfollowed := true, recurses := true, apart := false }
def MixerMixesSaid : Prop := mixerMixesRow.holds Try.pinned (OpenSpec.ofChange mixerMixesSpec)

/-- ITS FALSE NEIGHBOUR: 'it returns false'. Refute it at one input. -/
def mixerMixesWrong : ChangeSpec := { name := "mixerMixes", fn := fun _ => fun
  | [d1, d2, d3, d4] => { results := [.lit (.bool false)], args := [d1, d2, d3, d4] }
  | _ => none }
def MixerMixesWrongFalsely : Prop := mixerMixesRow.holds Try.pinned (OpenSpec.ofChange mixerMixesWrong)

/- THE SECOND FORM. 'bulk': how many values and letters a reading holds, each counted each time it is reached (what is shared counts as often as it is met; a slice's spare places count too). A statement '..UptoSaid' is the law's where the arguments, and the package variables that the reading takes, are together of bulk at most 1048576: NARROWER than '..Said'. Prove '..Said' where nothing that the law and all that it calls make is longer than what came in: it says more and counts as full. Else prove '..UptoSaid'. A law counts once. -/
mutual
def uptoBulk {H : Type} : DataW H → Nat
  | .lit (.string bytes) => bytes.length + 1
  | .lit _ => 1
  | .nil => 1
  | .ptr d => uptoBulk d + 1
  | .slice elems spare => uptoBulkAll elems + uptoBulkAll spare + 1
  | .agg parts => uptoBulkAll parts + 1
  | .iface _ d => uptoBulk d + 1
  | .map entries => uptoBulkEntries entries + 1
  | .held _ => 1
def uptoBulkAll {H : Type} : List (DataW H) → Nat
  | [] => 0
  | d :: r => uptoBulk d + uptoBulkAll r
def uptoBulkEntries {H : Type} : List (Lit × DataW H) → Nat
  | [] => 0
  | x :: r => uptoBulkEntry x + uptoBulkEntries r
def uptoBulkEntry {H : Type} : Lit × DataW H → Nat
  | (.string bytes, d) => bytes.length + uptoBulk d + 1
  | (_, d) => uptoBulk d + 1
 end
def uptoSmall : (H : Type) → List (DataW H) → Bool := fun _ ds => decide (uptoBulkAll ds ≤ 1048576)
def OpenSpec.upto (s : _root_.Go.ChangeSpec) : _root_.Go.OpenSpec := { _root_.Go.OpenSpec.ofChange s with cond := some uptoSmall }

/-- 'psalterylaw01.FixReckons', WHERE WHAT IT READS IS OF BULK AT MOST 1048576: true; the input reads as it did. -/
def fixReckonsUptoRow : OpenClaim := { program := "ytojlgjdebokelaa", sum := "9f1e5804774ea8a5d13e0bf0b94daaa45029fe5e533801db5aaf9741fd8e8079", func := "psaltery/psalterylaw01.FixReckons", spec := "fixReckons", apart := false, narrowed := true }
def FixReckonsUptoSaid : Prop := fixReckonsUptoRow.holds Try.pinned (OpenSpec.upto fixReckonsSpec)

/-- 'psalterylaw01.FixSums', WHERE WHAT IT READS IS OF BULK AT MOST 1048576: true; the input reads as it did. -/
def fixSumsUptoRow : OpenClaim := { program := "ytojlgjdebokelaa", sum := "9f1e5804774ea8a5d13e0bf0b94daaa45029fe5e533801db5aaf9741fd8e8079", func := "psaltery/psalterylaw01.FixSums", spec := "fixSums", apart := false, narrowed := true }
def FixSumsUptoSaid : Prop := fixSumsUptoRow.holds Try.pinned (OpenSpec.upto fixSumsSpec)

/-- 'psalterylaw03.WaveSines', WHERE WHAT IT READS IS OF BULK AT MOST 1048576: true; the input reads as it did. -/
def waveSinesUptoRow : OpenClaim := { program := "ytojlgjdebokelaa", sum := "9f1e5804774ea8a5d13e0bf0b94daaa45029fe5e533801db5aaf9741fd8e8079", func := "psaltery/psalterylaw03.WaveSines", spec := "waveSines", apart := false, narrowed := true }
def WaveSinesUptoSaid : Prop := waveSinesUptoRow.holds Try.pinned (OpenSpec.upto waveSinesSpec)

/-- 'psalterylaw03.WaveTables', WHERE WHAT IT READS IS OF BULK AT MOST 1048576: true; the input reads as it did. -/
def waveTablesUptoRow : OpenClaim := { program := "ytojlgjdebokelaa", sum := "9f1e5804774ea8a5d13e0bf0b94daaa45029fe5e533801db5aaf9741fd8e8079", func := "psaltery/psalterylaw03.WaveTables", spec := "waveTables", apart := false, narrowed := true }
def WaveTablesUptoSaid : Prop := waveTablesUptoRow.holds Try.pinned (OpenSpec.upto waveTablesSpec)

/-- 'psalterylaw19.GainSteps', WHERE WHAT IT READS IS OF BULK AT MOST 1048576: true; the input reads as it did. -/
def gainStepsUptoRow : OpenClaim := { program := "ytojlgjdebokelaa", sum := "9f1e5804774ea8a5d13e0bf0b94daaa45029fe5e533801db5aaf9741fd8e8079", func := "psaltery/psalterylaw19.GainSteps", spec := "gainSteps", apart := false, narrowed := true }
def GainStepsUptoSaid : Prop := gainStepsUptoRow.holds Try.pinned (OpenSpec.upto gainStepsSpec)

/-- 'psalterylaw02.LogsPower', WHERE WHAT IT READS IS OF BULK AT MOST 1048576: true; the input reads as it did. -/
def logsPowerUptoRow : OpenClaim := { program := "ytojlgjdebokelaa", sum := "9f1e5804774ea8a5d13e0bf0b94daaa45029fe5e533801db5aaf9741fd8e8079", func := "psaltery/psalterylaw02.LogsPower", spec := "logsPower", apart := false, narrowed := true }
def LogsPowerUptoSaid : Prop := logsPowerUptoRow.holds Try.pinned (OpenSpec.upto logsPowerSpec)

/-- 'psalterylaw33.MixerMixes', WHERE WHAT IT READS IS OF BULK AT MOST 1048576: true; the input reads as it did. -/
def mixerMixesUptoRow : OpenClaim := { program := "ytojlgjdebokelaa", sum := "9f1e5804774ea8a5d13e0bf0b94daaa45029fe5e533801db5aaf9741fd8e8079", func := "psaltery/psalterylaw33.MixerMixes", spec := "mixerMixes", unfollowed := true, recurses := true, apart := false, narrowed := true }
def MixerMixesUptoSaid : Prop := mixerMixesUptoRow.holds Try.pinned (OpenSpec.upto mixerMixesSpec)

end Rows
end Go.Proofs.Ytojlgjdebokelaa
