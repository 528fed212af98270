/-
  Plain: rows of the sieve for two primes, I from 3 to 103: reckoned by the kernel (rowgen.py prints this text).
-/
import Derived.Test.YtpphfeinmmmckaaDoorMRow
namespace Go.Proofs.YtpphfeinmmmckaaDoor
set_option maxRecDepth 100000
theorem row3 : row 4294967296 2147483648 3 = true := by decide +kernel
theorem row5 : row 4294967296 2147483648 5 = true := by decide +kernel
theorem row7 : row 4294967296 2147483648 7 = true := by decide +kernel
theorem row9 : row 4294967296 2147483648 9 = true := by decide +kernel
theorem row11 : row 4294967296 2147483648 11 = true := by decide +kernel
theorem row13 : row 4294967296 2147483648 13 = true := by decide +kernel
theorem row15 : row 4294967296 2147483648 15 = true := by decide +kernel
theorem row17 : row 4294967296 2147483648 17 = true := by decide +kernel
theorem row19 : row 4294967296 2147483648 19 = true := by decide +kernel
theorem row21 : row 4294967296 2147483648 21 = true := by decide +kernel
theorem row23 : row 4294967296 2147483648 23 = true := by decide +kernel
theorem row25 : row 4294967296 2147483648 25 = true := by decide +kernel
theorem row27 : row 4294967296 2147483648 27 = true := by decide +kernel
theorem row29 : row 4294967296 2147483648 29 = true := by decide +kernel
theorem row31 : row 4294967296 2147483648 31 = true := by decide +kernel
theorem row33 : row 4294967296 2147483648 33 = true := by decide +kernel
theorem row35 : row 4294967296 2147483648 35 = true := by decide +kernel
theorem row37 : row 4294967296 2147483648 37 = true := by decide +kernel
theorem row39 : row 4294967296 2147483648 39 = true := by decide +kernel
theorem row41 : row 4294967296 2147483648 41 = true := by decide +kernel
theorem row43 : row 4294967296 2147483648 43 = true := by decide +kernel
theorem row45 : row 4294967296 2147483648 45 = true := by decide +kernel
theorem row47 : row 4294967296 2147483648 47 = true := by decide +kernel
theorem row49 : row 4294967296 2147483648 49 = true := by decide +kernel
theorem row51 : row 4294967296 2147483648 51 = true := by decide +kernel
theorem row53 : row 4294967296 2147483648 53 = true := by decide +kernel
theorem row55 : row 4294967296 2147483648 55 = true := by decide +kernel
theorem row57 : row 4294967296 2147483648 57 = true := by decide +kernel
theorem row59 : row 4294967296 2147483648 59 = true := by decide +kernel
theorem row61 : row 4294967296 2147483648 61 = true := by decide +kernel
theorem row63 : row 4294967296 2147483648 63 = true := by decide +kernel
theorem row65 : row 4294967296 2147483648 65 = true := by decide +kernel
theorem row67 : row 4294967296 2147483648 67 = true := by decide +kernel
theorem row69 : row 4294967296 2147483648 69 = true := by decide +kernel
theorem row71 : row 4294967296 2147483648 71 = true := by decide +kernel
theorem row73 : row 4294967296 2147483648 73 = true := by decide +kernel
theorem row75 : row 4294967296 2147483648 75 = true := by decide +kernel
theorem row77 : row 4294967296 2147483648 77 = true := by decide +kernel
theorem row79 : row 4294967296 2147483648 79 = true := by decide +kernel
theorem row81 : row 4294967296 2147483648 81 = true := by decide +kernel
theorem row83 : row 4294967296 2147483648 83 = true := by decide +kernel
theorem row85 : row 4294967296 2147483648 85 = true := by decide +kernel
theorem row87 : row 4294967296 2147483648 87 = true := by decide +kernel
theorem row89 : row 4294967296 2147483648 89 = true := by decide +kernel
theorem row91 : row 4294967296 2147483648 91 = true := by decide +kernel
theorem row93 : row 4294967296 2147483648 93 = true := by decide +kernel
theorem row95 : row 4294967296 2147483648 95 = true := by decide +kernel
theorem row97 : row 4294967296 2147483648 97 = true := by decide +kernel
theorem row99 : row 4294967296 2147483648 99 = true := by decide +kernel
theorem row101 : row 4294967296 2147483648 101 = true := by decide +kernel
theorem row103 : row 4294967296 2147483648 103 = true := by decide +kernel
theorem rwA : ∀ t, t < 51 → row 4294967296 2147483648 (3 + 2 * t) = true
  | 0, _ => row3
  | 1, _ => row5
  | 2, _ => row7
  | 3, _ => row9
  | 4, _ => row11
  | 5, _ => row13
  | 6, _ => row15
  | 7, _ => row17
  | 8, _ => row19
  | 9, _ => row21
  | 10, _ => row23
  | 11, _ => row25
  | 12, _ => row27
  | 13, _ => row29
  | 14, _ => row31
  | 15, _ => row33
  | 16, _ => row35
  | 17, _ => row37
  | 18, _ => row39
  | 19, _ => row41
  | 20, _ => row43
  | 21, _ => row45
  | 22, _ => row47
  | 23, _ => row49
  | 24, _ => row51
  | 25, _ => row53
  | 26, _ => row55
  | 27, _ => row57
  | 28, _ => row59
  | 29, _ => row61
  | 30, _ => row63
  | 31, _ => row65
  | 32, _ => row67
  | 33, _ => row69
  | 34, _ => row71
  | 35, _ => row73
  | 36, _ => row75
  | 37, _ => row77
  | 38, _ => row79
  | 39, _ => row81
  | 40, _ => row83
  | 41, _ => row85
  | 42, _ => row87
  | 43, _ => row89
  | 44, _ => row91
  | 45, _ => row93
  | 46, _ => row95
  | 47, _ => row97
  | 48, _ => row99
  | 49, _ => row101
  | 50, _ => row103
  | t + 51, h => absurd h (by omega)
end Go.Proofs.YtpphfeinmmmckaaDoor
