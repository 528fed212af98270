/-
  Plain: closed checks that reach to 2^40, by the kernel's own reckoning.
-/
import Derived.Test.YtpphfeinmmmckaaDoorBigT
namespace Go.Proofs.YtpphfeinmmmckaaDoor
set_option maxRecDepth 100000
theorem bigR0 : rng okR 0 8192 = true := by decide +kernel
theorem bigR1 : rng okR 8192 8192 = true := by decide +kernel
end Go.Proofs.YtpphfeinmmmckaaDoor
