/-
  Plain: closed checks that reach to 2^40, by the kernel's own reckoning.
-/
import Derived.Test.YtpphfeinmmmckaaDoorBigT
namespace Go.Proofs.YtpphfeinmmmckaaDoor
set_option maxRecDepth 100000
theorem bigQ0 : rng okQ 49152 27648 = true := by decide +kernel
theorem bigQ1 : rng okQ 76800 27648 = true := by decide +kernel
theorem bigQ2 : rng okQ 104448 27648 = true := by decide +kernel
theorem bigQ3 : rng okQ 132096 27648 = true := by decide +kernel
end Go.Proofs.YtpphfeinmmmckaaDoor
