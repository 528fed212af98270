/-
  Plain: rows of the sieve for two primes, I from 43 to 83: reckoned by the kernel (rowgen.py prints this text).
-/
import Derived.Test.YtpphfeinmmmckaaDoorRow
namespace Go.Proofs.YtpphfeinmmmckaaDoor
set_option maxRecDepth 100000
theorem row43 : row 4294967296 2147483648 43 = true := by decide +kernel
theorem row45 : row 4294967296 2147483648 45 = true := by decide +kernel
theorem row47 : row 4294967296 2147483648 47 = true := by decide +kernel
theorem row49 : row 4294967296 2147483648 49 = true := by decide +kernel
theorem row51 : row 4294967296 2147483648 51 = true := by decide +kernel
theorem row53 : row 4294967296 2147483648 53 = true := by decide +kernel
theorem row55 : row 4294967296 2147483648 55 = true := by decide +kernel
theorem row57 : row 4294967296 2147483648 57 = true := by decide +kernel
theorem row59 : row 4294967296 2147483648 59 = true := by decide +kernel
theorem row61 : row 4294967296 2147483648 61 = true := by decide +kernel
theorem row63 : row 4294967296 2147483648 63 = true := by decide +kernel
theorem row65 : row 4294967296 2147483648 65 = true := by decide +kernel
theorem row67 : row 4294967296 2147483648 67 = true := by decide +kernel
theorem row69 : row 4294967296 2147483648 69 = true := by decide +kernel
theorem row71 : row 4294967296 2147483648 71 = true := by decide +kernel
theorem row73 : row 4294967296 2147483648 73 = true := by decide +kernel
theorem row75 : row 4294967296 2147483648 75 = true := by decide +kernel
theorem row77 : row 4294967296 2147483648 77 = true := by decide +kernel
theorem row79 : row 4294967296 2147483648 79 = true := by decide +kernel
theorem row81 : row 4294967296 2147483648 81 = true := by decide +kernel
theorem row83 : row 4294967296 2147483648 83 = true := by decide +kernel
theorem rwB : ∀ t, t < 21 → row 4294967296 2147483648 (43 + 2 * t) = true
  | 0, _ => row43
  | 1, _ => row45
  | 2, _ => row47
  | 3, _ => row49
  | 4, _ => row51
  | 5, _ => row53
  | 6, _ => row55
  | 7, _ => row57
  | 8, _ => row59
  | 9, _ => row61
  | 10, _ => row63
  | 11, _ => row65
  | 12, _ => row67
  | 13, _ => row69
  | 14, _ => row71
  | 15, _ => row73
  | 16, _ => row75
  | 17, _ => row77
  | 18, _ => row79
  | 19, _ => row81
  | 20, _ => row83
  | t + 21, h => absurd h (by omega)
end Go.Proofs.YtpphfeinmmmckaaDoor
