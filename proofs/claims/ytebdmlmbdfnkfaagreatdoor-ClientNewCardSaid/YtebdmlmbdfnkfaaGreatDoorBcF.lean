/- This text joins parts of the proof: each part says in its own first lines what it states. It has no conditions beyond those. -/
import Derived.Test.YtebdmlmbdfnkfaaGreatDoorBcE
set_option linter.unusedVariables false
set_option linter.unusedSimpArgs false
/- This text has checks, by the kernel, of parts of the run of awake (bodegalaw32). -/
section
set_option maxRecDepth 100000
set_option linter.unusedVariables false
namespace Ev
open Go Go.Proofs
theorem kb10 : chunk (iterF xDr Tryz.prog callB 1 (mkF fb10) (mkS hb10 (q 8634))) .norm fb11 hb11 (q 10782) = true := by kernel_rfl
theorem ka4 : chunk (iterF xDr Tryz.prog call2 3 (mkF fa4) (mkS ha4 (q 807))) .ret fa7 ha7 (q 2817) = true := by kernel_rfl
theorem kb11 : chunk (iterF xDr Tryz.prog call2 1 (mkF fb11) (mkS hb11 (q 10782))) .norm fb12 hb12 (q 11945) = true := by kernel_rfl
theorem kb5 : chunk (iterF xDr Tryz.prog call2 2 (mkF fb5) (mkS hb5 (q 5205))) .norm fb7 hb7 (q 6223) = true := by kernel_rfl
theorem kb0 : chunk (iterF xDr Tryz.prog call2 2 (mkF fb0) (mkS hb0 (q 2876))) .norm fb2 hb2 (q 3492) = true := by kernel_rfl
theorem domb1 : domChk recb.nx.num recb.hl = true := by kernel_rfl
theorem domb2 : domChk recb.nx'.num recb.hl' = true := by kernel_rfl
end Ev
end
