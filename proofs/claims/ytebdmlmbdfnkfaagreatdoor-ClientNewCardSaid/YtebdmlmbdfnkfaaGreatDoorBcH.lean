/- This text joins parts of the proof: each part says in its own first lines what it states. It has no conditions beyond those. -/
import Derived.Test.YtebdmlmbdfnkfaaGreatDoorBcE
set_option linter.unusedVariables false
set_option linter.unusedSimpArgs false
/- This text has checks, by the kernel, of parts of the run of awake (bodegalaw32). -/
section
set_option maxRecDepth 100000
set_option linter.unusedVariables false
namespace Ev
open Go Go.Proofs
theorem kB : callChunk call2 93 recB = true := by kernel_rfl
theorem kb7 : chunk (iterF xDr Tryz.prog call2 1 (mkF fb7) (mkS hb7 (q 6223))) .norm fb8 hb8 (q 7087) = true := by kernel_rfl
theorem kb3 : chunk (iterF xDr Tryz.prog call2 2 (mkF fb3) (mkS hb3 (q 4065))) .norm fb5 hb5 (q 5205) = true := by kernel_rfl
theorem kb8 : chunk (iterF xDr Tryz.prog call2 1 (mkF fb8) (mkS hb8 (q 7087))) .norm fb9 hb9 (q 7731) = true := by kernel_rfl
theorem kb2 : chunk (iterF xDr Tryz.prog call2 1 (mkF fb2) (mkS hb2 (q 3492))) .norm fb3 hb3 (q 4065) = true := by kernel_rfl
theorem domB1 : domChk recB.nx.num recB.hl = true := by kernel_rfl
theorem domB2 : domChk recB.nx'.num recB.hl' = true := by kernel_rfl
end Ev
end
