/- This text joins parts of the proof: each part says in its own first lines what it states. It has no conditions beyond those. -/
import Derived.Test.YtebdmlmbdfnkfaaGreatDoorBcE
set_option linter.unusedVariables false
set_option linter.unusedSimpArgs false
/- This text has checks, by the kernel, of parts of the run of awake (bodegalaw32). -/
section
set_option maxRecDepth 100000
set_option linter.unusedVariables false
namespace Ev
open Go Go.Proofs
theorem kb13 : chunk (iterF xDr Tryz.prog call2 1 (mkF fb13) (mkS hb13 (q 12760))) .norm fb14 hb14 (q 14195) = true := by kernel_rfl
theorem kb9 : chunk (iterF xDr Tryz.prog call2 1 (mkF fb9) (mkS hb9 (q 7731))) .norm fb10 hb10 (q 8634) = true := by kernel_rfl
theorem kb14 : chunk (iterF xDr Tryz.prog call2 1 (mkF fb14) (mkS hb14 (q 14195))) .ret fb15 hb15 (q 15217) = true := by kernel_rfl
theorem kb12 : chunk (iterF xDr Tryz.prog call2 1 (mkF fb12) (mkS hb12 (q 11945))) .norm fb13 hb13 (q 12760) = true := by kernel_rfl
theorem ka0 : chunk (iterF xDr Tryz.prog call2 4 (mkF fa0) (mkS ha0 (q 39))) .norm fa4 ha4 (q 807) = true := by kernel_rfl
theorem prea : chunk (preF Tryz.prog call2 [true, false, true] cDr (mkF (argL aDr 0)) (mkS ha0 (q 39))) .norm fa0 ha0 (q 39) = true := by kernel_rfl
theorem preb : chunk (preF Tryz.prog call2 [true, false, true] cDr (mkF (argL aDr 0)) (mkS hb0 (q 2876))) .norm fb0 hb0 (q 2876) = true := by kernel_rfl
theorem doma1 : domChk reca.nx.num reca.hl = true := by kernel_rfl
theorem doma2 : domChk reca.nx'.num reca.hl' = true := by kernel_rfl
end Ev
end
