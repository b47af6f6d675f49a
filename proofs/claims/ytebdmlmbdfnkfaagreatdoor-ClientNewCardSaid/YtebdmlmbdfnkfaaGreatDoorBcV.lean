/- This text joins parts of the proof: each part says in its own first lines what it states. It has no conditions beyond those. -/
import Derived.Test.YtebdmlmbdfnkfaaGreatDoorRows
import Derived.LaidByTextLater
import Derived.SevenTiedAt
set_option linter.unusedVariables false
set_option linter.unusedSimpArgs false
/- The tie: what the variables hold behind the run. -/
section
set_option linter.unusedVariables false
namespace Go.Proofs.YtebdmlmbdfnkfaaGreatDoor.ClientNewLaw
set_option maxRecDepth 100000 in
theorem laid_run (os : Os) (tape) : (DataW.laidRun Tryz.prog (varsWorld Tryz.prog 400 (varsId Tryz.prog) os tape).memory 8 (([("bodega/hashindex.none", Rows.laid_bodega_hashindex_none), ("bodega/btree.none", Rows.laid_bodega_btree_none)] : List (String × DataW Unit)).map (·.1))).map (·.1) = some ([("bodega/hashindex.none", Rows.laid_bodega_hashindex_none), ("bodega/btree.none", Rows.laid_bodega_btree_none)] : List (String × DataW Unit)) := by kernel_rfl
end Go.Proofs.YtebdmlmbdfnkfaaGreatDoor.ClientNewLaw
end
