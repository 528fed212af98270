/-
  Plain: rows of the sieve for two primes, I from 369 to 441: reckoned by the kernel (rowgen.py prints this text).
-/
import Derived.Test.YtpphfeinmmmckaaDoorRow
namespace Go.Proofs.YtpphfeinmmmckaaDoor
set_option maxRecDepth 100000
theorem row369 : row 4294967296 2147483648 369 = true := by decide +kernel
theorem row371 : row 4294967296 2147483648 371 = true := by decide +kernel
theorem row373 : row 4294967296 2147483648 373 = true := by decide +kernel
theorem row375 : row 4294967296 2147483648 375 = true := by decide +kernel
theorem row377 : row 4294967296 2147483648 377 = true := by decide +kernel
theorem row379 : row 4294967296 2147483648 379 = true := by decide +kernel
theorem row381 : row 4294967296 2147483648 381 = true := by decide +kernel
theorem row383 : row 4294967296 2147483648 383 = true := by decide +kernel
theorem row385 : row 4294967296 2147483648 385 = true := by decide +kernel
theorem row387 : row 4294967296 2147483648 387 = true := by decide +kernel
theorem row389 : row 4294967296 2147483648 389 = true := by decide +kernel
theorem row391 : row 4294967296 2147483648 391 = true := by decide +kernel
theorem row393 : row 4294967296 2147483648 393 = true := by decide +kernel
theorem row395 : row 4294967296 2147483648 395 = true := by decide +kernel
theorem row397 : row 4294967296 2147483648 397 = true := by decide +kernel
theorem row399 : row 4294967296 2147483648 399 = true := by decide +kernel
theorem row401 : row 4294967296 2147483648 401 = true := by decide +kernel
theorem row403 : row 4294967296 2147483648 403 = true := by decide +kernel
theorem row405 : row 4294967296 2147483648 405 = true := by decide +kernel
theorem row407 : row 4294967296 2147483648 407 = true := by decide +kernel
theorem row409 : row 4294967296 2147483648 409 = true := by decide +kernel
theorem row411 : row 4294967296 2147483648 411 = true := by decide +kernel
theorem row413 : row 4294967296 2147483648 413 = true := by decide +kernel
theorem row415 : row 4294967296 2147483648 415 = true := by decide +kernel
theorem row417 : row 4294967296 2147483648 417 = true := by decide +kernel
theorem row419 : row 4294967296 2147483648 419 = true := by decide +kernel
theorem row421 : row 4294967296 2147483648 421 = true := by decide +kernel
theorem row423 : row 4294967296 2147483648 423 = true := by decide +kernel
theorem row425 : row 4294967296 2147483648 425 = true := by decide +kernel
theorem row427 : row 4294967296 2147483648 427 = true := by decide +kernel
theorem row429 : row 4294967296 2147483648 429 = true := by decide +kernel
theorem row431 : row 4294967296 2147483648 431 = true := by decide +kernel
theorem row433 : row 4294967296 2147483648 433 = true := by decide +kernel
theorem row435 : row 4294967296 2147483648 435 = true := by decide +kernel
theorem row437 : row 4294967296 2147483648 437 = true := by decide +kernel
theorem row439 : row 4294967296 2147483648 439 = true := by decide +kernel
theorem row441 : row 4294967296 2147483648 441 = true := by decide +kernel
theorem rwI : ∀ t, t < 37 → row 4294967296 2147483648 (369 + 2 * t) = true
  | 0, _ => row369
  | 1, _ => row371
  | 2, _ => row373
  | 3, _ => row375
  | 4, _ => row377
  | 5, _ => row379
  | 6, _ => row381
  | 7, _ => row383
  | 8, _ => row385
  | 9, _ => row387
  | 10, _ => row389
  | 11, _ => row391
  | 12, _ => row393
  | 13, _ => row395
  | 14, _ => row397
  | 15, _ => row399
  | 16, _ => row401
  | 17, _ => row403
  | 18, _ => row405
  | 19, _ => row407
  | 20, _ => row409
  | 21, _ => row411
  | 22, _ => row413
  | 23, _ => row415
  | 24, _ => row417
  | 25, _ => row419
  | 26, _ => row421
  | 27, _ => row423
  | 28, _ => row425
  | 29, _ => row427
  | 30, _ => row429
  | 31, _ => row431
  | 32, _ => row433
  | 33, _ => row435
  | 34, _ => row437
  | 35, _ => row439
  | 36, _ => row441
  | t + 37, h => absurd h (by omega)
end Go.Proofs.YtpphfeinmmmckaaDoor
