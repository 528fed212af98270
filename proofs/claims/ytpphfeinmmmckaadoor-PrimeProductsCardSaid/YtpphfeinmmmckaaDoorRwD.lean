/-
  Plain: rows of the sieve for two primes, I from 125 to 165: reckoned by the kernel (rowgen.py prints this text).
-/
import Derived.Test.YtpphfeinmmmckaaDoorRow
namespace Go.Proofs.YtpphfeinmmmckaaDoor
set_option maxRecDepth 100000
theorem row125 : row 4294967296 2147483648 125 = true := by decide +kernel
theorem row127 : row 4294967296 2147483648 127 = true := by decide +kernel
theorem row129 : row 4294967296 2147483648 129 = true := by decide +kernel
theorem row131 : row 4294967296 2147483648 131 = true := by decide +kernel
theorem row133 : row 4294967296 2147483648 133 = true := by decide +kernel
theorem row135 : row 4294967296 2147483648 135 = true := by decide +kernel
theorem row137 : row 4294967296 2147483648 137 = true := by decide +kernel
theorem row139 : row 4294967296 2147483648 139 = true := by decide +kernel
theorem row141 : row 4294967296 2147483648 141 = true := by decide +kernel
theorem row143 : row 4294967296 2147483648 143 = true := by decide +kernel
theorem row145 : row 4294967296 2147483648 145 = true := by decide +kernel
theorem row147 : row 4294967296 2147483648 147 = true := by decide +kernel
theorem row149 : row 4294967296 2147483648 149 = true := by decide +kernel
theorem row151 : row 4294967296 2147483648 151 = true := by decide +kernel
theorem row153 : row 4294967296 2147483648 153 = true := by decide +kernel
theorem row155 : row 4294967296 2147483648 155 = true := by decide +kernel
theorem row157 : row 4294967296 2147483648 157 = true := by decide +kernel
theorem row159 : row 4294967296 2147483648 159 = true := by decide +kernel
theorem row161 : row 4294967296 2147483648 161 = true := by decide +kernel
theorem row163 : row 4294967296 2147483648 163 = true := by decide +kernel
theorem row165 : row 4294967296 2147483648 165 = true := by decide +kernel
theorem rwD : ∀ t, t < 21 → row 4294967296 2147483648 (125 + 2 * t) = true
  | 0, _ => row125
  | 1, _ => row127
  | 2, _ => row129
  | 3, _ => row131
  | 4, _ => row133
  | 5, _ => row135
  | 6, _ => row137
  | 7, _ => row139
  | 8, _ => row141
  | 9, _ => row143
  | 10, _ => row145
  | 11, _ => row147
  | 12, _ => row149
  | 13, _ => row151
  | 14, _ => row153
  | 15, _ => row155
  | 16, _ => row157
  | 17, _ => row159
  | 18, _ => row161
  | 19, _ => row163
  | 20, _ => row165
  | t + 21, h => absurd h (by omega)
end Go.Proofs.YtpphfeinmmmckaaDoor
