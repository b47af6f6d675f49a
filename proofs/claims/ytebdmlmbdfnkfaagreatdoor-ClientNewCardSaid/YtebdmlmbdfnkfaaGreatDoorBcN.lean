/- This text joins parts of the proof: each part says in its own first lines what it states. It has no conditions beyond those. -/
import Derived.Test.YtebdmlmbdfnkfaaGreatDoorRows
import Derived.JoinedOf
import Derived.KernelRfl
import Derived.Test.YtebdmlmbdfnkfaaGreatDoorBcM
set_option linter.unusedVariables false
set_option linter.unusedSimpArgs false
/- This text proves that every map type of the table has rows, and that no map type has a wide key. -/
section
set_option linter.unusedVariables false
namespace Go.Proofs.YtebdmlmbdfnkfaaGreatDoor.ClientNewLaw
set_option maxRecDepth 100000 in
set_option maxHeartbeats 8000000 in
theorem maps_rowed : mapsRowed Tryz.prog = true := by
  unfold mapsRowed
  rw [types_size]
  apply by_hundreds <;> as_aux_lemma => kernel_rfl
set_option maxRecDepth 100000 in
set_option maxHeartbeats 8000000 in
theorem plain_keys : Tryz.prog.plainKeys = true := by
  unfold Program.plainKeys
  rw [types_size]
  apply by_hundreds <;> as_aux_lemma => kernel_rfl
end Go.Proofs.YtebdmlmbdfnkfaaGreatDoor.ClientNewLaw
end
