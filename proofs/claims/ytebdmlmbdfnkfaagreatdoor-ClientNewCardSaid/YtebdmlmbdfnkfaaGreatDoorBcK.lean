/- This text joins parts of the proof: each part says in its own first lines what it states. It has no conditions beyond those. -/
import Derived.Test.YtebdmlmbdfnkfaaGreatDoorRows
import Derived.ProofKit
import Derived.LaidMore
import Derived.OpenShut
import Derived.Stop.Joined
set_option linter.unusedVariables false
set_option linter.unusedSimpArgs false
/- This text has closed facts on the program's variables: the heap that the program's own start leaves meets the rows' condition. -/
section
set_option linter.unusedVariables false
set_option linter.unusedSimpArgs false
namespace Go.Proofs.YtebdmlmbdfnkfaaGreatDoor.ClientNewLaw
open Go.ChangeShapes Go.WideShapes Go.ChangeAt Go.WideMaps Go.WideElems Go.RowKit
theorem own : ownKnob Tryz.prog.godebug = none := by kernel_rfl
theorem gHx : Tryz.prog.globalNamed "bodega/hashindex.none" = some 2 := by kernel_rfl
theorem gBt : Tryz.prog.globalNamed "bodega/btree.none" = some 1 := by kernel_rfl
theorem tHx : (Tryz.prog.globals[2]?).map (·.type) = some 506 := by kernel_rfl
theorem tBt : (Tryz.prog.globals[1]?).map (·.type) = some 506 := by kernel_rfl
theorem cNone : Tryz.prog.cellsOf 506 = 2 := by kernel_rfl
theorem c3 : Tryz.prog.cellsOf 3 = 1 := by kernel_rfl
theorem cConf : Tryz.prog.cellsOf 28 = 6 := by kernel_rfl
abbrev laid : List (String × DataW Unit) := [("bodega/hashindex.none", Rows.laid_bodega_hashindex_none), ("bodega/btree.none", Rows.laid_bodega_btree_none)]
/-- The door's own heap meets the condition: three closed facts. -/
theorem door_met (os : Os) (args : Array Value) : laidMetH Tryz.prog laid ((World.doorLaid Tryz.prog 400 os).forCall (fun _ _ => 0) ⟨#[], args, []⟩).memory :=
  laidMetH_of_parts3 (fuel := 8) (laidMet_of_run' 8 (by kernel_rfl) (by kernel_rfl)) (by kernel_rfl) (by kernel_rfl)
end Go.Proofs.YtebdmlmbdfnkfaaGreatDoor.ClientNewLaw
end
