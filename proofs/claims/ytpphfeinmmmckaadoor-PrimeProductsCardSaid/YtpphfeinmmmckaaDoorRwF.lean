/-
  Plain: rows of the sieve for two primes, I from 211 to 257: reckoned by the kernel (rowgen.py prints this text).
-/
import Derived.Test.YtpphfeinmmmckaaDoorRow
namespace Go.Proofs.YtpphfeinmmmckaaDoor
set_option maxRecDepth 100000
theorem row211 : row 4294967296 2147483648 211 = true := by decide +kernel
theorem row213 : row 4294967296 2147483648 213 = true := by decide +kernel
theorem row215 : row 4294967296 2147483648 215 = true := by decide +kernel
theorem row217 : row 4294967296 2147483648 217 = true := by decide +kernel
theorem row219 : row 4294967296 2147483648 219 = true := by decide +kernel
theorem row221 : row 4294967296 2147483648 221 = true := by decide +kernel
theorem row223 : row 4294967296 2147483648 223 = true := by decide +kernel
theorem row225 : row 4294967296 2147483648 225 = true := by decide +kernel
theorem row227 : row 4294967296 2147483648 227 = true := by decide +kernel
theorem row229 : row 4294967296 2147483648 229 = true := by decide +kernel
theorem row231 : row 4294967296 2147483648 231 = true := by decide +kernel
theorem row233 : row 4294967296 2147483648 233 = true := by decide +kernel
theorem row235 : row 4294967296 2147483648 235 = true := by decide +kernel
theorem row237 : row 4294967296 2147483648 237 = true := by decide +kernel
theorem row239 : row 4294967296 2147483648 239 = true := by decide +kernel
theorem row241 : row 4294967296 2147483648 241 = true := by decide +kernel
theorem row243 : row 4294967296 2147483648 243 = true := by decide +kernel
theorem row245 : row 4294967296 2147483648 245 = true := by decide +kernel
theorem row247 : row 4294967296 2147483648 247 = true := by decide +kernel
theorem row249 : row 4294967296 2147483648 249 = true := by decide +kernel
theorem row251 : row 4294967296 2147483648 251 = true := by decide +kernel
theorem row253 : row 4294967296 2147483648 253 = true := by decide +kernel
theorem row255 : row 4294967296 2147483648 255 = true := by decide +kernel
theorem row257 : row 4294967296 2147483648 257 = true := by decide +kernel
theorem rwF : ∀ t, t < 24 → row 4294967296 2147483648 (211 + 2 * t) = true
  | 0, _ => row211
  | 1, _ => row213
  | 2, _ => row215
  | 3, _ => row217
  | 4, _ => row219
  | 5, _ => row221
  | 6, _ => row223
  | 7, _ => row225
  | 8, _ => row227
  | 9, _ => row229
  | 10, _ => row231
  | 11, _ => row233
  | 12, _ => row235
  | 13, _ => row237
  | 14, _ => row239
  | 15, _ => row241
  | 16, _ => row243
  | 17, _ => row245
  | 18, _ => row247
  | 19, _ => row249
  | 20, _ => row251
  | 21, _ => row253
  | 22, _ => row255
  | 23, _ => row257
  | t + 24, h => absurd h (by omega)
end Go.Proofs.YtpphfeinmmmckaaDoor
