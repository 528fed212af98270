/-
  Plain: rows of the sieve for two primes, I from 167 to 209: reckoned by the kernel (rowgen.py prints this text).
-/
import Derived.Test.YtpphfeinmmmckaaDoorRow
namespace Go.Proofs.YtpphfeinmmmckaaDoor
set_option maxRecDepth 100000
theorem row167 : row 4294967296 2147483648 167 = true := by decide +kernel
theorem row169 : row 4294967296 2147483648 169 = true := by decide +kernel
theorem row171 : row 4294967296 2147483648 171 = true := by decide +kernel
theorem row173 : row 4294967296 2147483648 173 = true := by decide +kernel
theorem row175 : row 4294967296 2147483648 175 = true := by decide +kernel
theorem row177 : row 4294967296 2147483648 177 = true := by decide +kernel
theorem row179 : row 4294967296 2147483648 179 = true := by decide +kernel
theorem row181 : row 4294967296 2147483648 181 = true := by decide +kernel
theorem row183 : row 4294967296 2147483648 183 = true := by decide +kernel
theorem row185 : row 4294967296 2147483648 185 = true := by decide +kernel
theorem row187 : row 4294967296 2147483648 187 = true := by decide +kernel
theorem row189 : row 4294967296 2147483648 189 = true := by decide +kernel
theorem row191 : row 4294967296 2147483648 191 = true := by decide +kernel
theorem row193 : row 4294967296 2147483648 193 = true := by decide +kernel
theorem row195 : row 4294967296 2147483648 195 = true := by decide +kernel
theorem row197 : row 4294967296 2147483648 197 = true := by decide +kernel
theorem row199 : row 4294967296 2147483648 199 = true := by decide +kernel
theorem row201 : row 4294967296 2147483648 201 = true := by decide +kernel
theorem row203 : row 4294967296 2147483648 203 = true := by decide +kernel
theorem row205 : row 4294967296 2147483648 205 = true := by decide +kernel
theorem row207 : row 4294967296 2147483648 207 = true := by decide +kernel
theorem row209 : row 4294967296 2147483648 209 = true := by decide +kernel
theorem rwE : ∀ t, t < 22 → row 4294967296 2147483648 (167 + 2 * t) = true
  | 0, _ => row167
  | 1, _ => row169
  | 2, _ => row171
  | 3, _ => row173
  | 4, _ => row175
  | 5, _ => row177
  | 6, _ => row179
  | 7, _ => row181
  | 8, _ => row183
  | 9, _ => row185
  | 10, _ => row187
  | 11, _ => row189
  | 12, _ => row191
  | 13, _ => row193
  | 14, _ => row195
  | 15, _ => row197
  | 16, _ => row199
  | 17, _ => row201
  | 18, _ => row203
  | 19, _ => row205
  | 20, _ => row207
  | 21, _ => row209
  | t + 22, h => absurd h (by omega)
end Go.Proofs.YtpphfeinmmmckaaDoor
