/-
  Plain: rows of the sieve for two primes, I from 259 to 307: reckoned by the kernel (rowgen.py prints this text).
-/
import Derived.Test.YtpphfeinmmmckaaDoorRow
namespace Go.Proofs.YtpphfeinmmmckaaDoor
set_option maxRecDepth 100000
theorem row259 : row 4294967296 2147483648 259 = true := by decide +kernel
theorem row261 : row 4294967296 2147483648 261 = true := by decide +kernel
theorem row263 : row 4294967296 2147483648 263 = true := by decide +kernel
theorem row265 : row 4294967296 2147483648 265 = true := by decide +kernel
theorem row267 : row 4294967296 2147483648 267 = true := by decide +kernel
theorem row269 : row 4294967296 2147483648 269 = true := by decide +kernel
theorem row271 : row 4294967296 2147483648 271 = true := by decide +kernel
theorem row273 : row 4294967296 2147483648 273 = true := by decide +kernel
theorem row275 : row 4294967296 2147483648 275 = true := by decide +kernel
theorem row277 : row 4294967296 2147483648 277 = true := by decide +kernel
theorem row279 : row 4294967296 2147483648 279 = true := by decide +kernel
theorem row281 : row 4294967296 2147483648 281 = true := by decide +kernel
theorem row283 : row 4294967296 2147483648 283 = true := by decide +kernel
theorem row285 : row 4294967296 2147483648 285 = true := by decide +kernel
theorem row287 : row 4294967296 2147483648 287 = true := by decide +kernel
theorem row289 : row 4294967296 2147483648 289 = true := by decide +kernel
theorem row291 : row 4294967296 2147483648 291 = true := by decide +kernel
theorem row293 : row 4294967296 2147483648 293 = true := by decide +kernel
theorem row295 : row 4294967296 2147483648 295 = true := by decide +kernel
theorem row297 : row 4294967296 2147483648 297 = true := by decide +kernel
theorem row299 : row 4294967296 2147483648 299 = true := by decide +kernel
theorem row301 : row 4294967296 2147483648 301 = true := by decide +kernel
theorem row303 : row 4294967296 2147483648 303 = true := by decide +kernel
theorem row305 : row 4294967296 2147483648 305 = true := by decide +kernel
theorem row307 : row 4294967296 2147483648 307 = true := by decide +kernel
theorem rwG : ∀ t, t < 25 → row 4294967296 2147483648 (259 + 2 * t) = true
  | 0, _ => row259
  | 1, _ => row261
  | 2, _ => row263
  | 3, _ => row265
  | 4, _ => row267
  | 5, _ => row269
  | 6, _ => row271
  | 7, _ => row273
  | 8, _ => row275
  | 9, _ => row277
  | 10, _ => row279
  | 11, _ => row281
  | 12, _ => row283
  | 13, _ => row285
  | 14, _ => row287
  | 15, _ => row289
  | 16, _ => row291
  | 17, _ => row293
  | 18, _ => row295
  | 19, _ => row297
  | 20, _ => row299
  | 21, _ => row301
  | 22, _ => row303
  | 23, _ => row305
  | 24, _ => row307
  | t + 25, h => absurd h (by omega)
end Go.Proofs.YtpphfeinmmmckaaDoor
