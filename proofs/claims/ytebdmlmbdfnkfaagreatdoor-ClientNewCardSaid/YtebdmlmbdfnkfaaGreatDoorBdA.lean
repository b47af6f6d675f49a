/- This text joins parts of the proof: each part says in its own first lines what it states. It has no conditions beyond those. -/
import Derived.Test.YtebdmlmbdfnkfaaGreatDoorBcZ
import Derived.Test.YtebdmlmbdfnkfaaGreatDoorBcR
import Derived.Test.YtebdmlmbdfnkfaaGreatDoorBcS
import Derived.Test.YtebdmlmbdfnkfaaGreatDoorBcT
import Derived.Test.YtebdmlmbdfnkfaaGreatDoorBcU
import Derived.Test.YtebdmlmbdfnkfaaGreatDoorBcV
import Derived.Test.YtebdmlmbdfnkfaaGreatDoorBcW
import Derived.Test.YtebdmlmbdfnkfaaGreatDoorBcX
import Derived.Test.YtebdmlmbdfnkfaaGreatDoorBcY
import Derived.Test.YtebdmlmbdfnkfaaGreatDoorCards
import Derived.SevenTiedAt
set_option linter.unusedVariables false
set_option linter.unusedSimpArgs false
/- This text proves the card of ClientNew: the row's statement with the two listed variables tied to the program's text. -/
section
set_option linter.unusedVariables false
namespace Go.Proofs.YtebdmlmbdfnkfaaGreatDoor
namespace ClientNewLaw
theorem tie : Tryz.prog.laidByTextLater [("bodega/hashindex.none", Rows.laid_bodega_hashindex_none), ("bodega/btree.none", Rows.laid_bodega_btree_none)] [.data, .data] true :=
  Program.laidByTextLater_by_run 400 8 worded_later worded_not worded_root kinds_later vars_there vars_later vars_done laid_run laid_rows
theorem row_tie : Rows.clientNewRow.laidByTextAt .later Tryz.pinned [.data, .data] true := OpenClaim.laidByTextAt_later rfl rfl tie own_unsafe
set_option maxRecDepth 100000 in
theorem main_is : Tryz.pinned.checked.prog.mainIs = some (true, "7492ef70a1a88fa84d9a2d40884b98165552fcdcd60704cb76fb2cffd32a19a6".toList) := by kernel_rfl
set_option maxRecDepth 100000 in
theorem wf_text : Rows.clientNewRow.wfByText (OpenSpec.ofChange Rows.clientNewSpec) = true := by kernel_rfl
set_option maxRecDepth 100000 in
theorem wants : ([28, 3, 4].all fun u => !Tryz.prog.wantsStandIn u) = true := by kernel_rfl
theorem card_holds : Rows.ClientNewCardSaid :=
  Claim7.holds_tied_plain_at .later [] [.data, .data] true (true, "7492ef70a1a88fa84d9a2d40884b98165552fcdcd60704cb76fb2cffd32a19a6") false
    holds (fun _ h => by cases h) wf_text (fun _ h => by cases h) row_tie rfl ⟨rfl, rfl⟩ main_is rfl
    (fun f fn hf hfn => by
      obtain rfl : f = 4 := (Option.some.inj (func_named.symm.trans hf)).symm
      obtain rfl : fn = Tryz.f4 := (Option.some.inj (Tryz.func4.symm.trans hfn)).symm
      exact ⟨looks_not, fun j t ht => by
        rw [Tryz.params4] at ht
        have hm : t ∈ [28, 3, 4] := by simpa using Array.mem_of_getElem? ht
        exact (show Tryz.prog.wantsStandIn t = false by simpa using List.all_eq_true.1 wants t hm)⟩)
    goes_by
end ClientNewLaw
/-- the card of ClientNew holds -/
theorem clientNew_card_holds : Rows.ClientNewCardSaid := ClientNewLaw.card_holds
end Go.Proofs.YtebdmlmbdfnkfaaGreatDoor
end
