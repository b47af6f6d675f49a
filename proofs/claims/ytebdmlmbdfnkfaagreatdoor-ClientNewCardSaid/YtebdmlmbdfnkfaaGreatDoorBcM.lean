/- This text joins parts of the proof: each part says in its own first lines what it states. It has no conditions beyond those. -/
import Derived.Test.YtebdmlmbdfnkfaaGreatDoorRows
import Derived.JoinedOf
import Derived.KernelRfl
set_option linter.unusedVariables false
set_option linter.unusedSimpArgs false
/- This text proves that the table of types is laid as the row says, a hundred rows at a time. -/
section
set_option linter.unusedVariables false
namespace Go.Proofs.YtebdmlmbdfnkfaaGreatDoor.ClientNewLaw
theorem cut {p : Nat → Bool} {s m n : Nat} (h1 : (List.range' s m).all p = true) (h2 : (List.range' (s + m) n).all p = true) : (List.range' s (m + n)).all p = true := by
  rw [← List.range'_append_1, List.all_append, h1, h2]
  rfl
theorem by_hundreds {p : Nat → Bool} (h0 : (List.range' 0 100).all p = true) (h1 : (List.range' 100 100).all p = true) (h2 : (List.range' 200 100).all p = true) (h3 : (List.range' 300 100).all p = true) (h4 : (List.range' 400 100).all p = true) (h5 : (List.range' 500 100).all p = true) (h6 : (List.range' 600 100).all p = true) (h7 : (List.range' 700 100).all p = true) (h8 : (List.range' 800 100).all p = true) (h9 : (List.range' 900 26).all p = true) : (List.range 926).all p = true := by
  rw [List.range_eq_range']
  exact cut (m := 100) (n := 826) h0 (cut (m := 100) (n := 726) h1 (cut (m := 100) (n := 626) h2 (cut (m := 100) (n := 526) h3 (cut (m := 100) (n := 426) h4 (cut (m := 100) (n := 326) h5 (cut (m := 100) (n := 226) h6 (cut (m := 100) (n := 126) h7 (cut (m := 100) (n := 26) h8 h9))))))))
set_option maxRecDepth 100000 in
theorem types_size : Tryz.prog.types.size = 926 := by kernel_rfl
set_option maxRecDepth 100000 in
theorem globals_typed : (Tryz.prog.globals.all (fun g => decide (g.type < 926))) = true := by kernel_rfl
set_option maxRecDepth 100000 in
theorem funcs_typed : (Tryz.prog.funcs.all (fun f => f.params.all fun t => decide (t < 926))) = true := by kernel_rfl
set_option maxRecDepth 100000 in
set_option maxHeartbeats 8000000 in
theorem laid_out : laidOutB Tryz.prog = true := by
  unfold laidOutB
  rw [types_size, globals_typed, funcs_typed, Bool.and_true, Bool.and_true]
  apply by_hundreds <;> as_aux_lemma => kernel_rfl
end Go.Proofs.YtebdmlmbdfnkfaaGreatDoor.ClientNewLaw
end
