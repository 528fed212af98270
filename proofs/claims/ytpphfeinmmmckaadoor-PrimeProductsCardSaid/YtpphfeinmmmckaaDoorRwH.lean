/-
  Plain: rows of the sieve for two primes, I from 309 to 367: reckoned by the kernel (rowgen.py prints this text).
-/
import Derived.Test.YtpphfeinmmmckaaDoorRow
namespace Go.Proofs.YtpphfeinmmmckaaDoor
set_option maxRecDepth 100000
theorem row309 : row 4294967296 2147483648 309 = true := by decide +kernel
theorem row311 : row 4294967296 2147483648 311 = true := by decide +kernel
theorem row313 : row 4294967296 2147483648 313 = true := by decide +kernel
theorem row315 : row 4294967296 2147483648 315 = true := by decide +kernel
theorem row317 : row 4294967296 2147483648 317 = true := by decide +kernel
theorem row319 : row 4294967296 2147483648 319 = true := by decide +kernel
theorem row321 : row 4294967296 2147483648 321 = true := by decide +kernel
theorem row323 : row 4294967296 2147483648 323 = true := by decide +kernel
theorem row325 : row 4294967296 2147483648 325 = true := by decide +kernel
theorem row327 : row 4294967296 2147483648 327 = true := by decide +kernel
theorem row329 : row 4294967296 2147483648 329 = true := by decide +kernel
theorem row331 : row 4294967296 2147483648 331 = true := by decide +kernel
theorem row333 : row 4294967296 2147483648 333 = true := by decide +kernel
theorem row335 : row 4294967296 2147483648 335 = true := by decide +kernel
theorem row337 : row 4294967296 2147483648 337 = true := by decide +kernel
theorem row339 : row 4294967296 2147483648 339 = true := by decide +kernel
theorem row341 : row 4294967296 2147483648 341 = true := by decide +kernel
theorem row343 : row 4294967296 2147483648 343 = true := by decide +kernel
theorem row345 : row 4294967296 2147483648 345 = true := by decide +kernel
theorem row347 : row 4294967296 2147483648 347 = true := by decide +kernel
theorem row349 : row 4294967296 2147483648 349 = true := by decide +kernel
theorem row351 : row 4294967296 2147483648 351 = true := by decide +kernel
theorem row353 : row 4294967296 2147483648 353 = true := by decide +kernel
theorem row355 : row 4294967296 2147483648 355 = true := by decide +kernel
theorem row357 : row 4294967296 2147483648 357 = true := by decide +kernel
theorem row359 : row 4294967296 2147483648 359 = true := by decide +kernel
theorem row361 : row 4294967296 2147483648 361 = true := by decide +kernel
theorem row363 : row 4294967296 2147483648 363 = true := by decide +kernel
theorem row365 : row 4294967296 2147483648 365 = true := by decide +kernel
theorem row367 : row 4294967296 2147483648 367 = true := by decide +kernel
theorem rwH : ∀ t, t < 30 → row 4294967296 2147483648 (309 + 2 * t) = true
  | 0, _ => row309
  | 1, _ => row311
  | 2, _ => row313
  | 3, _ => row315
  | 4, _ => row317
  | 5, _ => row319
  | 6, _ => row321
  | 7, _ => row323
  | 8, _ => row325
  | 9, _ => row327
  | 10, _ => row329
  | 11, _ => row331
  | 12, _ => row333
  | 13, _ => row335
  | 14, _ => row337
  | 15, _ => row339
  | 16, _ => row341
  | 17, _ => row343
  | 18, _ => row345
  | 19, _ => row347
  | 20, _ => row349
  | 21, _ => row351
  | 22, _ => row353
  | 23, _ => row355
  | 24, _ => row357
  | 25, _ => row359
  | 26, _ => row361
  | 27, _ => row363
  | 28, _ => row365
  | 29, _ => row367
  | t + 30, h => absurd h (by omega)
end Go.Proofs.YtpphfeinmmmckaaDoor
