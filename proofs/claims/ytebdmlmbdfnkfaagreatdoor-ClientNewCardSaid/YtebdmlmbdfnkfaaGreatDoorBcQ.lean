/- This text joins parts of the proof: each part says in its own first lines what it states. It has no conditions beyond those. -/
import Derived.Test.YtebdmlmbdfnkfaaGreatDoorRows
import Derived.JoinedOf
import Derived.KernelRfl
import Derived.Test.YtebdmlmbdfnkfaaGreatDoorBcN
import Derived.Test.YtebdmlmbdfnkfaaGreatDoorBcO
import Derived.Test.YtebdmlmbdfnkfaaGreatDoorBcP
set_option linter.unusedVariables false
set_option linter.unusedSimpArgs false
/- This text joins the closed facts of the row. -/
section
set_option linter.unusedVariables false
namespace Go.Proofs.YtebdmlmbdfnkfaaGreatDoor.ClientNewLaw
theorem un_followed_eq : (Rows.clientNewRow.unfollowed == Tryz.prog.unfollowed 4) = true := by
  rw [un_followed]
  rfl
theorem re_curses_eq : (Rows.clientNewRow.recurses == Tryz.prog.recurses 4) = true := by
  rw [re_curses]
  rfl
theorem plain_keys_eq : (Rows.clientNewRow.plainKeys == Tryz.prog.plainKeys) = true := by
  rw [plain_keys]
  rfl
set_option maxRecDepth 100000 in
set_option maxHeartbeats 8000000 in
theorem facts : joinedFacts Tryz.prog 4 Tryz.f4 Rows.clientNewSpec Rows.clientNewRow = true := by
  unfold joinedFacts
  simp only [Bool.and_eq_true]
  refine ⟨⟨⟨⟨⟨⟨⟨⟨⟨⟨⟨⟨⟨⟨⟨⟨⟨⟨⟨⟨⟨⟨⟨⟨⟨⟨⟨⟨⟨⟨⟨?_, laid_out⟩, maps_rowed⟩, ?_⟩, ?_⟩, ?_⟩, ?_⟩, ?_⟩, ?_⟩, in_place⟩, un_followed_eq⟩, re_curses_eq⟩, vars_named⟩, ?_⟩, ?_⟩, ?_⟩, ?_⟩, ?_⟩, ?_⟩, ?_⟩, ?_⟩, ?_⟩, plain_keys_eq⟩, ?_⟩, stops_heard⟩, may_enter⟩, ?_⟩, ?_⟩, ?_⟩, ?_⟩, ?_⟩, ?_⟩
  all_goals as_aux_lemma => kernel_rfl
set_option maxRecDepth 100000 in
theorem func_named : Tryz.prog.funcNamed Rows.clientNewRow.func = some 4 := by kernel_rfl
end Go.Proofs.YtebdmlmbdfnkfaaGreatDoor.ClientNewLaw
end
