/- This text joins parts of the proof: each part says in its own first lines what it states. It has no conditions beyond those. -/
import Derived.Test.YtebdmlmbdfnkfaaGreatDoorBcL
import Derived.Test.YtebdmlmbdfnkfaaGreatDoorBcQ
import Derived.SevenTiedAt
set_option linter.unusedVariables false
set_option linter.unusedSimpArgs false
/- The card: the law starts no goroutine. -/
section
set_option linter.unusedVariables false
namespace Go.Proofs.YtebdmlmbdfnkfaaGreatDoor.ClientNewLaw
set_option maxRecDepth 100000 in
theorem none_goes : Tryz.prog.funcs.any Func.goes = false := by kernel_rfl
set_option maxRecDepth 100000 in
set_option maxHeartbeats 8000000 in
theorem closure_goes : ((Tryz.prog.closure 4).any fun g => (Tryz.prog.funcs[g]?).any Func.goes) = false := by
  rw [closure_reached]
  rw [List.any_eq_false]
  intro g _ h
  cases hg : Tryz.prog.funcs[g]? with
  | none => rw [hg] at h; cases h
  | some fn =>
    rw [hg] at h
    obtain ⟨hi, he⟩ := Array.getElem?_eq_some_iff.1 hg
    have := Array.any_eq_false.1 none_goes g hi
    rw [he] at this
    exact this h
theorem goes_not : Tryz.prog.goes 4 = false := by
  unfold Program.goes
  rw [closure_goes, none_goes, Bool.and_false, Bool.or_false]
theorem any_not {o : Option FuncId} {f : FuncId} {p : FuncId → Bool} (h : o = some f) (hp : p f = false) : false = (o.any p || false) := by
  rw [h, Option.any_some, hp]
  rfl
theorem goes_by : false = Rows.clientNewRow.goesBy Tryz.prog := by
  unfold OpenClaim.goesBy Program.goesAt Program.goesFrom
  exact any_not func_named goes_not
end Go.Proofs.YtebdmlmbdfnkfaaGreatDoor.ClientNewLaw
end
