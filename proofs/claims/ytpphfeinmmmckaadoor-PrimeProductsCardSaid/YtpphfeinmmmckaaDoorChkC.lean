/-
  Plain: the closed checks over small primes, their third part, by the kernel's own reckoning.
-/
import Derived.Test.YtpphfeinmmmckaaDoorChk
namespace Go.Proofs.YtpphfeinmmmckaaDoor
set_option maxRecDepth 100000
theorem ok6 : force (prodT 15 0) (fun W => allFrom (okP W) 49163 8187) = true := by decide +kernel
theorem ok7 : force (prodT 15 0) (fun W => allFrom (okP W) 57350 8187) = true := by decide +kernel
end Go.Proofs.YtpphfeinmmmckaaDoor
