/-
  Plain: the closed checks over small primes, their second part, by the kernel's own reckoning.
-/
import Derived.Test.YtpphfeinmmmckaaDoorChk
namespace Go.Proofs.YtpphfeinmmmckaaDoor
set_option maxRecDepth 100000
theorem ok4 : force (prodT 15 0) (fun W => allFrom (okP W) 32789 8187) = true := by decide +kernel
theorem ok5 : force (prodT 15 0) (fun W => allFrom (okP W) 40976 8187) = true := by decide +kernel
end Go.Proofs.YtpphfeinmmmckaaDoor
