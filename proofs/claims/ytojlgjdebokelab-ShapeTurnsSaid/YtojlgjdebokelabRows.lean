/-
  No cell of these rows narrows 'for every input' (looked for: loops, veiled, ifaces, maps, wideKeys, modest, calm, conditions, laid).
  DERIVED. THE GIVEN ROWS OF THIS SEAT. 5 by the template 'for every input the law returns true; each argument reads behind the call as it read before'; 0 by the template 'total and deterministic' (their statements: YtojlgjdebokelabTotals.lean).
  GIVEN WITH THE SEED: the statements are not yours to turn. If you find one false, say at which input.
  Laid BY PROGRAM, IN A SANDBOX (cutbox-rows.mjs): the forced cells as the released guide's own fill.sh prints them over the translation 8050a1a77beba751… (all of the seat's roots in one cut). By AI agents, Wed Nov 11 2026. No macro, syntax, notation, axiom, sorry.
-/
import Derived.Test.YtojlgjdebokelabChecked
import GoSem.Claim
import GoSem.ClaimJoined
import GoSem.ClaimMapViews
import Derived.JoinedTies
import Derived.KernelRfl
namespace Go.Proofs.Ytojlgjdebokelab
/- THE CELL 'sum', in the pinned program and in every row, IS THE sha256 OF THE DUMP (.gsa) THAT YtojlgjdebokelabProg.lean LOADS. Nothing in Lean hashes anything: it is a label: what it is worth is what the hold of that sum in a sandbox is worth. -/
noncomputable def Try.pinned : Pinned := { name := "ytojlgjdebokelab", sum := "8050a1a77beba751f4215108ae199523635d94e52e8a71d887f0172fbce1556d", checked := Try.checked }
namespace Rows
def none {H : Type} : Left H := { results := [], args := [] }

/-- 'psalterylaw19.GainRestores': WHATEVER THE INPUT: true; the input reads as it did. -/
def gainRestoresSpec : ChangeSpec := { name := "gainRestores", fn := fun _ => fun
  | [d1, d2, d3, d4, d5] => { results := [.lit (.bool true)], args := [d1, d2, d3, d4, d5] }
  | _ => none }
def gainRestoresRow : OpenClaim := { program := "ytojlgjdebokelab", sum := "8050a1a77beba751f4215108ae199523635d94e52e8a71d887f0172fbce1556d", func := "psaltery/psalterylaw19.GainRestores", spec := "gainRestores", apart := false }
def GainRestoresSaid : Prop := gainRestoresRow.holds Try.pinned (OpenSpec.ofChange gainRestoresSpec)

/-- ITS FALSE NEIGHBOUR: 'it returns false'. Refute it at one input. -/
def gainRestoresWrong : ChangeSpec := { name := "gainRestores", fn := fun _ => fun
  | [d1, d2, d3, d4, d5] => { results := [.lit (.bool false)], args := [d1, d2, d3, d4, d5] }
  | _ => none }
def GainRestoresWrongFalsely : Prop := gainRestoresRow.holds Try.pinned (OpenSpec.ofChange gainRestoresWrong)

/-- 'psalterylaw18.PitchCombs': WHATEVER THE INPUT: true; the input reads as it did. -/
def pitchCombsSpec : ChangeSpec := { name := "pitchCombs", fn := fun _ => fun
  | [d1, d2] => { results := [.lit (.bool true)], args := [d1, d2] }
  | _ => none }
def pitchCombsRow : OpenClaim := { program := "ytojlgjdebokelab", sum := "8050a1a77beba751f4215108ae199523635d94e52e8a71d887f0172fbce1556d", func := "psaltery/psalterylaw18.PitchCombs", spec := "pitchCombs", unfollowed := true, recurses := true, apart := false }
def PitchCombsSaid : Prop := pitchCombsRow.holds Try.pinned (OpenSpec.ofChange pitchCombsSpec)

/-- ITS FALSE NEIGHBOUR: 'it returns false'. Refute it at one input. -/
def pitchCombsWrong : ChangeSpec := { name := "pitchCombs", fn := fun _ => fun
  | [d1, d2] => { results := [.lit (.bool false)], args := [d1, d2] }
  | _ => none }
def PitchCombsWrongFalsely : Prop := pitchCombsRow.holds Try.pinned (OpenSpec.ofChange pitchCombsWrong)

/-- 'psalterylaw17.TnsFinds': WHATEVER THE INPUT: true; the input reads as it did. -/
def tnsFindsSpec : ChangeSpec := { name := "tnsFinds", fn := fun _ => fun
  | [d] => { results := [.lit (.bool true)], args := [d] }
  | _ => none }
def tnsFindsRow : OpenClaim := { program := "ytojlgjdebokelab", sum := "8050a1a77beba751f4215108ae199523635d94e52e8a71d887f0172fbce1556d", func := "psaltery/psalterylaw17.TnsFinds", spec := "tnsFinds", unfollowed := true, recurses := true, apart := false }
def TnsFindsSaid : Prop := tnsFindsRow.holds Try.pinned (OpenSpec.ofChange tnsFindsSpec)

/-- ITS FALSE NEIGHBOUR: 'it returns false'. Refute it at one input. -/
def tnsFindsWrong : ChangeSpec := { name := "tnsFinds", fn := fun _ => fun
  | [d] => { results := [.lit (.bool false)], args := [d] }
  | _ => none }
def TnsFindsWrongFalsely : Prop := tnsFindsRow.holds Try.pinned (OpenSpec.ofChange tnsFindsWrong)

/-- 'psalterylaw16.ShapeTurns': WHATEVER THE INPUT: true; the input reads as it did. -/
def shapeTurnsSpec : ChangeSpec := { name := "shapeTurns", fn := fun _ => fun
  | [d1, d2] => { results := [.lit (.bool true)], args := [d1, d2] }
  | _ => none }
def shapeTurnsRow : OpenClaim := { program := "ytojlgjdebokelab", sum := "8050a1a77beba751f4215108ae199523635d94e52e8a71d887f0172fbce1556d", func := "psaltery/psalterylaw16.ShapeTurns", spec := "shapeTurns", apart := false }
def ShapeTurnsSaid : Prop := shapeTurnsRow.holds Try.pinned (OpenSpec.ofChange shapeTurnsSpec)

/-- ITS FALSE NEIGHBOUR: 'it returns false'. Refute it at one input. -/
def shapeTurnsWrong : ChangeSpec := { name := "shapeTurns", fn := fun _ => fun
  | [d1, d2] => { results := [.lit (.bool false)], args := [d1, d2] }
  | _ => none }
def ShapeTurnsWrongFalsely : Prop := shapeTurnsRow.holds Try.pinned (OpenSpec.ofChange shapeTurnsWrong)

/-- 'psalterylaw17.TnsRuns': WHATEVER THE INPUT: true; the input reads as it did. -/
def tnsRunsSpec : ChangeSpec := { name := "tnsRuns", fn := fun _ => fun
  | [d1, d2] => { results := [.lit (.bool true)], args := [d1, d2] }
  | _ => none }
def tnsRunsRow : OpenClaim := { program := "ytojlgjdebokelab", sum := "8050a1a77beba751f4215108ae199523635d94e52e8a71d887f0172fbce1556d", func := "psaltery/psalterylaw17.TnsRuns", spec := "tnsRuns", unfollowed := true, recurses := true, apart := false }
def TnsRunsSaid : Prop := tnsRunsRow.holds Try.pinned (OpenSpec.ofChange tnsRunsSpec)

/-- ITS FALSE NEIGHBOUR: 'it returns false'. Refute it at one input. -/
def tnsRunsWrong : ChangeSpec := { name := "tnsRuns", fn := fun _ => fun
  | [d1, d2] => { results := [.lit (.bool false)], args := [d1, d2] }
  | _ => none }
def TnsRunsWrongFalsely : Prop := tnsRunsRow.holds Try.pinned (OpenSpec.ofChange tnsRunsWrong)

/- THE SECOND FORM. 'bulk': how many values and letters a reading holds, each counted each time it is reached (what is shared counts as often as it is met; a slice's spare places count too). A statement '..UptoSaid' is the law's where the arguments, and the package variables that the reading takes, are together of bulk at most 1048576: NARROWER than '..Said'. Prove '..Said' where nothing that the law and all that it calls make is longer than what came in: it says more and counts as full. Else prove '..UptoSaid'. A law counts once. -/
mutual
def uptoBulk {H : Type} : DataW H → Nat
  | .lit (.string bytes) => bytes.length + 1
  | .lit _ => 1
  | .nil => 1
  | .ptr d => uptoBulk d + 1
  | .slice elems spare => uptoBulkAll elems + uptoBulkAll spare + 1
  | .agg parts => uptoBulkAll parts + 1
  | .iface _ d => uptoBulk d + 1
  | .map entries => uptoBulkEntries entries + 1
  | .held _ => 1
def uptoBulkAll {H : Type} : List (DataW H) → Nat
  | [] => 0
  | d :: r => uptoBulk d + uptoBulkAll r
def uptoBulkEntries {H : Type} : List (Lit × DataW H) → Nat
  | [] => 0
  | x :: r => uptoBulkEntry x + uptoBulkEntries r
def uptoBulkEntry {H : Type} : Lit × DataW H → Nat
  | (.string bytes, d) => bytes.length + uptoBulk d + 1
  | (_, d) => uptoBulk d + 1
 end
def uptoSmall : (H : Type) → List (DataW H) → Bool := fun _ ds => decide (uptoBulkAll ds ≤ 1048576)
def OpenSpec.upto (s : _root_.Go.ChangeSpec) : _root_.Go.OpenSpec := { _root_.Go.OpenSpec.ofChange s with cond := some uptoSmall }

/-- 'psalterylaw19.GainRestores', WHERE WHAT IT READS IS OF BULK AT MOST 1048576: true; the input reads as it did. -/
def gainRestoresUptoRow : OpenClaim := { program := "ytojlgjdebokelab", sum := "8050a1a77beba751f4215108ae199523635d94e52e8a71d887f0172fbce1556d", func := "psaltery/psalterylaw19.GainRestores", spec := "gainRestores", apart := false, narrowed := true }
def GainRestoresUptoSaid : Prop := gainRestoresUptoRow.holds Try.pinned (OpenSpec.upto gainRestoresSpec)

/-- 'psalterylaw18.PitchCombs', WHERE WHAT IT READS IS OF BULK AT MOST 1048576: true; the input reads as it did. -/
def pitchCombsUptoRow : OpenClaim := { program := "ytojlgjdebokelab", sum := "8050a1a77beba751f4215108ae199523635d94e52e8a71d887f0172fbce1556d", func := "psaltery/psalterylaw18.PitchCombs", spec := "pitchCombs", unfollowed := true, recurses := true, apart := false, narrowed := true }
def PitchCombsUptoSaid : Prop := pitchCombsUptoRow.holds Try.pinned (OpenSpec.upto pitchCombsSpec)

/-- 'psalterylaw17.TnsFinds', WHERE WHAT IT READS IS OF BULK AT MOST 1048576: true; the input reads as it did. -/
def tnsFindsUptoRow : OpenClaim := { program := "ytojlgjdebokelab", sum := "8050a1a77beba751f4215108ae199523635d94e52e8a71d887f0172fbce1556d", func := "psaltery/psalterylaw17.TnsFinds", spec := "tnsFinds", unfollowed := true, recurses := true, apart := false, narrowed := true }
def TnsFindsUptoSaid : Prop := tnsFindsUptoRow.holds Try.pinned (OpenSpec.upto tnsFindsSpec)

/-- 'psalterylaw16.ShapeTurns', WHERE WHAT IT READS IS OF BULK AT MOST 1048576: true; the input reads as it did. -/
def shapeTurnsUptoRow : OpenClaim := { program := "ytojlgjdebokelab", sum := "8050a1a77beba751f4215108ae199523635d94e52e8a71d887f0172fbce1556d", func := "psaltery/psalterylaw16.ShapeTurns", spec := "shapeTurns", apart := false, narrowed := true }
def ShapeTurnsUptoSaid : Prop := shapeTurnsUptoRow.holds Try.pinned (OpenSpec.upto shapeTurnsSpec)

/-- 'psalterylaw17.TnsRuns', WHERE WHAT IT READS IS OF BULK AT MOST 1048576: true; the input reads as it did. -/
def tnsRunsUptoRow : OpenClaim := { program := "ytojlgjdebokelab", sum := "8050a1a77beba751f4215108ae199523635d94e52e8a71d887f0172fbce1556d", func := "psaltery/psalterylaw17.TnsRuns", spec := "tnsRuns", unfollowed := true, recurses := true, apart := false, narrowed := true }
def TnsRunsUptoSaid : Prop := tnsRunsUptoRow.holds Try.pinned (OpenSpec.upto tnsRunsSpec)

end Rows
end Go.Proofs.Ytojlgjdebokelab
