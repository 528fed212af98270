/-
  Plain: closed checks that reach to 2^40, by the kernel's own reckoning.
-/
import Derived.Test.YtpphfeinmmmckaaDoorBigT
namespace Go.Proofs.YtpphfeinmmmckaaDoor
set_option maxRecDepth 100000
theorem bigR2 : rng okR 16384 16384 = true := by decide +kernel
theorem bigR3 : rng okR 32768 16384 = true := by decide +kernel
end Go.Proofs.YtpphfeinmmmckaaDoor
