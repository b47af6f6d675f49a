/- This text joins parts of the proof: each part says in its own first lines what it states. It has no conditions beyond those. -/
import Derived.Test.YtebdmlmbdfnkfaaGreatDoorRows
import Derived.JoinedOf
import Derived.KernelRfl
set_option linter.unusedVariables false
set_option linter.unusedSimpArgs false
/- This text proves two facts of the whole program that the row asks for. -/
section
set_option linter.unusedVariables false
namespace Go.Proofs.YtebdmlmbdfnkfaaGreatDoor.ClientNewLaw
set_option maxRecDepth 100000 in
theorem stops_heard : Tryz.prog.stopsHeard = true := by kernel_rfl
set_option maxRecDepth 100000 in
theorem may_enter : Tryz.prog.mayEnter = true := by kernel_rfl
end Go.Proofs.YtebdmlmbdfnkfaaGreatDoor.ClientNewLaw
end
