/-
  Plain: closed checks that reach to 2^40, by the kernel's own reckoning.
-/
import Derived.Test.YtpphfeinmmmckaaDoorBigT
namespace Go.Proofs.YtpphfeinmmmckaaDoor
set_option maxRecDepth 100000
theorem bigQ8 : rng okQ 270336 27648 = true := by decide +kernel
theorem bigQ9 : rng okQ 297984 27648 = true := by decide +kernel
theorem bigQ10 : rng okQ 325632 27648 = true := by decide +kernel
theorem bigQ11 : rng okQ 353280 27648 = true := by decide +kernel
theorem bigQ12 : rng okQ 380928 27648 = true := by decide +kernel
theorem bigQ13 : rng okQ 408576 27648 = true := by decide +kernel
theorem bigQ14 : rng okQ 436224 27648 = true := by decide +kernel
theorem bigQ15 : rng okQ 463872 27648 = true := by decide +kernel
end Go.Proofs.YtpphfeinmmmckaaDoor
