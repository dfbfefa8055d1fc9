/- psalterylaw02.LogsPower answers true for every input: two to the power of any 256th parts, and its error, are the reference's. No condition: every int32. -/
import Derived.Test.YtojlgjdebokelaaPLogsPowerx1
namespace Go.Proofs.Ytojlgjdebokelaa.Pure
open Go.RowKit Go.Proofs.Ytojlgjdebokelaa.PLogsPower Go.Proofs.YtojlgjdebokelaaW.PrintWords Go.Proofs.YtojlgjdebokelaaW.PrintLast

theorem alive_f : psalterylaw02_alive.f 50 = some true := by decide +kernel

theorem LogsPower : psalterylaw02_LogsPower.Pure := by
  intro q _
  refine ⟨50, ?_⟩
  unfold psalterylaw02_LogsPower.f
  rw [alive_f]
  simp [logs_Exp.f, psalteryref02_Exp.f]

end Go.Proofs.Ytojlgjdebokelaa.Pure
