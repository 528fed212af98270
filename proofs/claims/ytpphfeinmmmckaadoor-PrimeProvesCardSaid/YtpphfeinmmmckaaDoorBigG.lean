/-
  Plain: closed checks that reach to 2^40: the pairs, by the kernel's own reckoning.
-/
import Derived.Test.YtpphfeinmmmckaaDoorBigP
namespace Go.Proofs.YtpphfeinmmmckaaDoor
set_option maxRecDepth 100000
theorem bigPairs : pairsAll 1099511627776 81901 = true := by decide +kernel
end Go.Proofs.YtpphfeinmmmckaaDoor
