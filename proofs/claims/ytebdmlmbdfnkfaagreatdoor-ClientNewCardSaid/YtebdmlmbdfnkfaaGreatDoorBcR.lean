/- This text joins parts of the proof: each part says in its own first lines what it states. It has no conditions beyond those. -/
import Derived.Test.YtebdmlmbdfnkfaaGreatDoorRows
import Derived.LaidByTextLater
import Derived.SevenTiedAt
set_option linter.unusedVariables false
set_option linter.unusedSimpArgs false
/- The tie: the words that the translation bears. -/
section
set_option linter.unusedVariables false
namespace Go.Proofs.YtebdmlmbdfnkfaaGreatDoor.ClientNewLaw
set_option maxRecDepth 100000 in
theorem worded_later : Tryz.prog.worded (varsWordLater true) = true := by kernel_rfl
set_option maxRecDepth 100000 in
theorem worded_not : Tryz.prog.worded (varsWordLater !true) = false := by kernel_rfl
set_option maxRecDepth 100000 in
theorem worded_root : Tryz.prog.worded rootWordLater = true := by kernel_rfl
set_option maxRecDepth 100000 in
theorem own_unsafe : Tryz.pinned.checked.prog.headLifts.contains "ownunsafe" = false := by kernel_rfl
set_option maxRecDepth 100000 in
theorem kinds_later : ([("bodega/hashindex.none", Rows.laid_bodega_hashindex_none), ("bodega/btree.none", Rows.laid_bodega_btree_none)] : List (String × DataW Unit)).map (fun x => Tryz.prog.kindOfLater x.1) = [LaidKind.data, LaidKind.data].map some := by kernel_rfl
end Go.Proofs.YtebdmlmbdfnkfaaGreatDoor.ClientNewLaw
end
