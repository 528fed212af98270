/-
  Plain: closed checks that reach to 2^40, by the kernel's own reckoning.
-/
import Derived.Test.YtpphfeinmmmckaaDoorBigT
namespace Go.Proofs.YtpphfeinmmmckaaDoor
set_option maxRecDepth 100000
theorem bigQ4 : rng okQ 159744 27648 = true := by decide +kernel
theorem bigQ5 : rng okQ 187392 27648 = true := by decide +kernel
theorem bigQ6 : rng okQ 215040 27648 = true := by decide +kernel
theorem bigQ7 : rng okQ 242688 27648 = true := by decide +kernel
end Go.Proofs.YtpphfeinmmmckaaDoor
