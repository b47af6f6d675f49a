/- This text joins parts of the proof: each part says in its own first lines what it states. It has no conditions beyond those. -/
import Derived.Test.YtebdmlmbdfnkfaaGreatDoorRows
import Derived.JoinedOf
import Derived.KernelRfl
import Derived.Test.YtebdmlmbdfnkfaaGreatDoorBcL
set_option linter.unusedVariables false
set_option linter.unusedSimpArgs false
/- This text proves what the row says of the functions that the law leads to. -/
section
set_option linter.unusedVariables false
namespace Go.Proofs.YtebdmlmbdfnkfaaGreatDoor.ClientNewLaw
set_option maxRecDepth 100000 in
set_option maxHeartbeats 8000000 in
theorem in_place : (Rows.clientNewRow.inPlace == Tryz.prog.inPlace 4) = true := by
  unfold Program.inPlace
  rw [closure_reached]
  simp only [← Ev.tab_funcs]
  as_aux_lemma => kernel_rfl
set_option maxRecDepth 100000 in
set_option maxHeartbeats 8000000 in
theorem un_followed : Tryz.prog.unfollowed 4 = true := by
  unfold Program.unfollowed
  rw [closure_reached]
  simp only [← Ev.tab_funcs]
  as_aux_lemma => kernel_rfl
set_option maxRecDepth 100000 in
set_option maxHeartbeats 8000000 in
theorem vars_named : (Rows.clientNewRow.named == Tryz.prog.varsNamed 4) = true := by
  unfold Program.varsNamed
  rw [closure_reached]
  simp only [← Ev.tab_funcs]
  as_aux_lemma => kernel_rfl
theorem re_curses : Tryz.prog.recurses 4 = true := by
  unfold Program.recurses
  rw [un_followed, Bool.true_or]
end Go.Proofs.YtebdmlmbdfnkfaaGreatDoor.ClientNewLaw
end
