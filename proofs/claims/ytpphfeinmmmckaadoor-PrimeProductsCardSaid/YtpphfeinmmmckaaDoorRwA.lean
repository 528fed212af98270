/-
  Plain: rows of the sieve for two primes, I from 3 to 41: reckoned by the kernel (rowgen.py prints this text).
-/
import Derived.Test.YtpphfeinmmmckaaDoorRow
namespace Go.Proofs.YtpphfeinmmmckaaDoor
set_option maxRecDepth 100000
theorem row3 : row 4294967296 2147483648 3 = true := by decide +kernel
theorem row5 : row 4294967296 2147483648 5 = true := by decide +kernel
theorem row7 : row 4294967296 2147483648 7 = true := by decide +kernel
theorem row9 : row 4294967296 2147483648 9 = true := by decide +kernel
theorem row11 : row 4294967296 2147483648 11 = true := by decide +kernel
theorem row13 : row 4294967296 2147483648 13 = true := by decide +kernel
theorem row15 : row 4294967296 2147483648 15 = true := by decide +kernel
theorem row17 : row 4294967296 2147483648 17 = true := by decide +kernel
theorem row19 : row 4294967296 2147483648 19 = true := by decide +kernel
theorem row21 : row 4294967296 2147483648 21 = true := by decide +kernel
theorem row23 : row 4294967296 2147483648 23 = true := by decide +kernel
theorem row25 : row 4294967296 2147483648 25 = true := by decide +kernel
theorem row27 : row 4294967296 2147483648 27 = true := by decide +kernel
theorem row29 : row 4294967296 2147483648 29 = true := by decide +kernel
theorem row31 : row 4294967296 2147483648 31 = true := by decide +kernel
theorem row33 : row 4294967296 2147483648 33 = true := by decide +kernel
theorem row35 : row 4294967296 2147483648 35 = true := by decide +kernel
theorem row37 : row 4294967296 2147483648 37 = true := by decide +kernel
theorem row39 : row 4294967296 2147483648 39 = true := by decide +kernel
theorem row41 : row 4294967296 2147483648 41 = true := by decide +kernel
theorem rwA : ∀ t, t < 20 → row 4294967296 2147483648 (3 + 2 * t) = true
  | 0, _ => row3
  | 1, _ => row5
  | 2, _ => row7
  | 3, _ => row9
  | 4, _ => row11
  | 5, _ => row13
  | 6, _ => row15
  | 7, _ => row17
  | 8, _ => row19
  | 9, _ => row21
  | 10, _ => row23
  | 11, _ => row25
  | 12, _ => row27
  | 13, _ => row29
  | 14, _ => row31
  | 15, _ => row33
  | 16, _ => row35
  | 17, _ => row37
  | 18, _ => row39
  | 19, _ => row41
  | t + 20, h => absurd h (by omega)
end Go.Proofs.YtpphfeinmmmckaaDoor
