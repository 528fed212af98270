/-
  Plain: rows of the sieve for two primes, I from 85 to 123: reckoned by the kernel (rowgen.py prints this text).
-/
import Derived.Test.YtpphfeinmmmckaaDoorRow
namespace Go.Proofs.YtpphfeinmmmckaaDoor
set_option maxRecDepth 100000
theorem row85 : row 4294967296 2147483648 85 = true := by decide +kernel
theorem row87 : row 4294967296 2147483648 87 = true := by decide +kernel
theorem row89 : row 4294967296 2147483648 89 = true := by decide +kernel
theorem row91 : row 4294967296 2147483648 91 = true := by decide +kernel
theorem row93 : row 4294967296 2147483648 93 = true := by decide +kernel
theorem row95 : row 4294967296 2147483648 95 = true := by decide +kernel
theorem row97 : row 4294967296 2147483648 97 = true := by decide +kernel
theorem row99 : row 4294967296 2147483648 99 = true := by decide +kernel
theorem row101 : row 4294967296 2147483648 101 = true := by decide +kernel
theorem row103 : row 4294967296 2147483648 103 = true := by decide +kernel
theorem row105 : row 4294967296 2147483648 105 = true := by decide +kernel
theorem row107 : row 4294967296 2147483648 107 = true := by decide +kernel
theorem row109 : row 4294967296 2147483648 109 = true := by decide +kernel
theorem row111 : row 4294967296 2147483648 111 = true := by decide +kernel
theorem row113 : row 4294967296 2147483648 113 = true := by decide +kernel
theorem row115 : row 4294967296 2147483648 115 = true := by decide +kernel
theorem row117 : row 4294967296 2147483648 117 = true := by decide +kernel
theorem row119 : row 4294967296 2147483648 119 = true := by decide +kernel
theorem row121 : row 4294967296 2147483648 121 = true := by decide +kernel
theorem row123 : row 4294967296 2147483648 123 = true := by decide +kernel
theorem rwC : ∀ t, t < 20 → row 4294967296 2147483648 (85 + 2 * t) = true
  | 0, _ => row85
  | 1, _ => row87
  | 2, _ => row89
  | 3, _ => row91
  | 4, _ => row93
  | 5, _ => row95
  | 6, _ => row97
  | 7, _ => row99
  | 8, _ => row101
  | 9, _ => row103
  | 10, _ => row105
  | 11, _ => row107
  | 12, _ => row109
  | 13, _ => row111
  | 14, _ => row113
  | 15, _ => row115
  | 16, _ => row117
  | 17, _ => row119
  | 18, _ => row121
  | 19, _ => row123
  | t + 20, h => absurd h (by omega)
end Go.Proofs.YtpphfeinmmmckaaDoor
