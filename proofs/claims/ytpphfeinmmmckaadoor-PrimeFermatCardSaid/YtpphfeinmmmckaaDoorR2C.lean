/-
  Plain: rows of the sieve for two primes beyond the first rows, I from 391 to 550: reckoned by the kernel (row2gen.py prints this text).
-/
import Derived.Test.YtpphfeinmmmckaaDoorMRow2
namespace Go.Proofs.YtpphfeinmmmckaaDoor
set_option maxRecDepth 100000
theorem r2C0 : rows2 391 1 = true := by decide +kernel
theorem r2C1 : rows2 393 1 = true := by decide +kernel
theorem r2C2 : rows2 395 1 = true := by decide +kernel
theorem r2C3 : rows2 397 1 = true := by decide +kernel
theorem r2C4 : rows2 399 1 = true := by decide +kernel
theorem r2C5 : rows2 401 1 = true := by decide +kernel
theorem r2C6 : rows2 403 1 = true := by decide +kernel
theorem r2C7 : rows2 405 1 = true := by decide +kernel
theorem r2C8 : rows2 407 1 = true := by decide +kernel
theorem r2C9 : rows2 409 1 = true := by decide +kernel
theorem r2C10 : rows2 411 1 = true := by decide +kernel
theorem r2C11 : rows2 413 1 = true := by decide +kernel
theorem r2C12 : rows2 415 1 = true := by decide +kernel
theorem r2C13 : rows2 417 1 = true := by decide +kernel
theorem r2C14 : rows2 419 1 = true := by decide +kernel
theorem r2C15 : rows2 421 1 = true := by decide +kernel
theorem r2C16 : rows2 423 1 = true := by decide +kernel
theorem r2C17 : rows2 425 1 = true := by decide +kernel
theorem r2C18 : rows2 427 1 = true := by decide +kernel
theorem r2C19 : rows2 429 1 = true := by decide +kernel
theorem r2C20 : rows2 431 1 = true := by decide +kernel
theorem r2C21 : rows2 433 1 = true := by decide +kernel
theorem r2C22 : rows2 435 1 = true := by decide +kernel
theorem r2C23 : rows2 437 1 = true := by decide +kernel
theorem r2C24 : rows2 439 1 = true := by decide +kernel
theorem r2C25 : rows2 441 1 = true := by decide +kernel
theorem r2C26 : rows2 443 1 = true := by decide +kernel
theorem r2C27 : rows2 445 1 = true := by decide +kernel
theorem r2C28 : rows2 447 1 = true := by decide +kernel
theorem r2C29 : rows2 449 1 = true := by decide +kernel
theorem r2C30 : rows2 451 1 = true := by decide +kernel
theorem r2C31 : rows2 453 1 = true := by decide +kernel
theorem r2C32 : rows2 455 1 = true := by decide +kernel
theorem r2C33 : rows2 457 1 = true := by decide +kernel
theorem r2C34 : rows2 459 1 = true := by decide +kernel
theorem r2C35 : rows2 461 1 = true := by decide +kernel
theorem r2C36 : rows2 463 1 = true := by decide +kernel
theorem r2C37 : rows2 465 1 = true := by decide +kernel
theorem r2C38 : rows2 467 1 = true := by decide +kernel
theorem r2C39 : rows2 469 1 = true := by decide +kernel
theorem r2C40 : rows2 471 1 = true := by decide +kernel
theorem r2C41 : rows2 473 1 = true := by decide +kernel
theorem r2C42 : rows2 475 1 = true := by decide +kernel
theorem r2C43 : rows2 477 1 = true := by decide +kernel
theorem r2C44 : rows2 479 1 = true := by decide +kernel
theorem r2C45 : rows2 481 1 = true := by decide +kernel
theorem r2C46 : rows2 483 1 = true := by decide +kernel
theorem r2C47 : rows2 485 1 = true := by decide +kernel
theorem r2C48 : rows2 487 1 = true := by decide +kernel
theorem r2C49 : rows2 489 1 = true := by decide +kernel
theorem r2C50 : rows2 491 1 = true := by decide +kernel
theorem r2C51 : rows2 493 1 = true := by decide +kernel
theorem r2C52 : rows2 495 1 = true := by decide +kernel
theorem r2C53 : rows2 497 1 = true := by decide +kernel
theorem r2C54 : rows2 499 1 = true := by decide +kernel
theorem r2C55 : rows2 501 1 = true := by decide +kernel
theorem r2C56 : rows2 503 1 = true := by decide +kernel
theorem r2C57 : rows2 505 1 = true := by decide +kernel
theorem r2C58 : rows2 507 1 = true := by decide +kernel
theorem r2C59 : rows2 509 1 = true := by decide +kernel
theorem r2C60 : rows2 511 1 = true := by decide +kernel
theorem r2C61 : rows2 513 1 = true := by decide +kernel
theorem r2C62 : rows2 515 1 = true := by decide +kernel
theorem r2C63 : rows2 517 1 = true := by decide +kernel
theorem r2C64 : rows2 519 1 = true := by decide +kernel
theorem r2C65 : rows2 521 1 = true := by decide +kernel
theorem r2C66 : rows2 523 1 = true := by decide +kernel
theorem r2C67 : rows2 525 1 = true := by decide +kernel
theorem r2C68 : rows2 527 1 = true := by decide +kernel
theorem r2C69 : rows2 529 1 = true := by decide +kernel
theorem r2C70 : rows2 531 1 = true := by decide +kernel
theorem r2C71 : rows2 533 1 = true := by decide +kernel
theorem r2C72 : rows2 535 1 = true := by decide +kernel
theorem r2C73 : rows2 537 1 = true := by decide +kernel
theorem r2C74 : rows2 539 1 = true := by decide +kernel
theorem r2C75 : rows2 541 1 = true := by decide +kernel
theorem r2C76 : rows2 543 1 = true := by decide +kernel
theorem r2C77 : rows2 545 1 = true := by decide +kernel
theorem r2C78 : rows2 547 1 = true := by decide +kernel
theorem r2C79 : rows2 549 1 = true := by decide +kernel
theorem r2C (I : Nat) (ho : I % 2 = 1) (h1 : 391 ≤ I) (h2 : I < 551) : row2 I = true := by
  rcases Nat.lt_or_ge I 393 with h | h
  · exact rows2_spec r2C0 (by omega) (by omega) (by omega)
  clear h1; have h1 := h; clear h
  rcases Nat.lt_or_ge I 395 with h | h
  · exact rows2_spec r2C1 (by omega) (by omega) (by omega)
  clear h1; have h1 := h; clear h
  rcases Nat.lt_or_ge I 397 with h | h
  · exact rows2_spec r2C2 (by omega) (by omega) (by omega)
  clear h1; have h1 := h; clear h
  rcases Nat.lt_or_ge I 399 with h | h
  · exact rows2_spec r2C3 (by omega) (by omega) (by omega)
  clear h1; have h1 := h; clear h
  rcases Nat.lt_or_ge I 401 with h | h
  · exact rows2_spec r2C4 (by omega) (by omega) (by omega)
  clear h1; have h1 := h; clear h
  rcases Nat.lt_or_ge I 403 with h | h
  · exact rows2_spec r2C5 (by omega) (by omega) (by omega)
  clear h1; have h1 := h; clear h
  rcases Nat.lt_or_ge I 405 with h | h
  · exact rows2_spec r2C6 (by omega) (by omega) (by omega)
  clear h1; have h1 := h; clear h
  rcases Nat.lt_or_ge I 407 with h | h
  · exact rows2_spec r2C7 (by omega) (by omega) (by omega)
  clear h1; have h1 := h; clear h
  rcases Nat.lt_or_ge I 409 with h | h
  · exact rows2_spec r2C8 (by omega) (by omega) (by omega)
  clear h1; have h1 := h; clear h
  rcases Nat.lt_or_ge I 411 with h | h
  · exact rows2_spec r2C9 (by omega) (by omega) (by omega)
  clear h1; have h1 := h; clear h
  rcases Nat.lt_or_ge I 413 with h | h
  · exact rows2_spec r2C10 (by omega) (by omega) (by omega)
  clear h1; have h1 := h; clear h
  rcases Nat.lt_or_ge I 415 with h | h
  · exact rows2_spec r2C11 (by omega) (by omega) (by omega)
  clear h1; have h1 := h; clear h
  rcases Nat.lt_or_ge I 417 with h | h
  · exact rows2_spec r2C12 (by omega) (by omega) (by omega)
  clear h1; have h1 := h; clear h
  rcases Nat.lt_or_ge I 419 with h | h
  · exact rows2_spec r2C13 (by omega) (by omega) (by omega)
  clear h1; have h1 := h; clear h
  rcases Nat.lt_or_ge I 421 with h | h
  · exact rows2_spec r2C14 (by omega) (by omega) (by omega)
  clear h1; have h1 := h; clear h
  rcases Nat.lt_or_ge I 423 with h | h
  · exact rows2_spec r2C15 (by omega) (by omega) (by omega)
  clear h1; have h1 := h; clear h
  rcases Nat.lt_or_ge I 425 with h | h
  · exact rows2_spec r2C16 (by omega) (by omega) (by omega)
  clear h1; have h1 := h; clear h
  rcases Nat.lt_or_ge I 427 with h | h
  · exact rows2_spec r2C17 (by omega) (by omega) (by omega)
  clear h1; have h1 := h; clear h
  rcases Nat.lt_or_ge I 429 with h | h
  · exact rows2_spec r2C18 (by omega) (by omega) (by omega)
  clear h1; have h1 := h; clear h
  rcases Nat.lt_or_ge I 431 with h | h
  · exact rows2_spec r2C19 (by omega) (by omega) (by omega)
  clear h1; have h1 := h; clear h
  rcases Nat.lt_or_ge I 433 with h | h
  · exact rows2_spec r2C20 (by omega) (by omega) (by omega)
  clear h1; have h1 := h; clear h
  rcases Nat.lt_or_ge I 435 with h | h
  · exact rows2_spec r2C21 (by omega) (by omega) (by omega)
  clear h1; have h1 := h; clear h
  rcases Nat.lt_or_ge I 437 with h | h
  · exact rows2_spec r2C22 (by omega) (by omega) (by omega)
  clear h1; have h1 := h; clear h
  rcases Nat.lt_or_ge I 439 with h | h
  · exact rows2_spec r2C23 (by omega) (by omega) (by omega)
  clear h1; have h1 := h; clear h
  rcases Nat.lt_or_ge I 441 with h | h
  · exact rows2_spec r2C24 (by omega) (by omega) (by omega)
  clear h1; have h1 := h; clear h
  rcases Nat.lt_or_ge I 443 with h | h
  · exact rows2_spec r2C25 (by omega) (by omega) (by omega)
  clear h1; have h1 := h; clear h
  rcases Nat.lt_or_ge I 445 with h | h
  · exact rows2_spec r2C26 (by omega) (by omega) (by omega)
  clear h1; have h1 := h; clear h
  rcases Nat.lt_or_ge I 447 with h | h
  · exact rows2_spec r2C27 (by omega) (by omega) (by omega)
  clear h1; have h1 := h; clear h
  rcases Nat.lt_or_ge I 449 with h | h
  · exact rows2_spec r2C28 (by omega) (by omega) (by omega)
  clear h1; have h1 := h; clear h
  rcases Nat.lt_or_ge I 451 with h | h
  · exact rows2_spec r2C29 (by omega) (by omega) (by omega)
  clear h1; have h1 := h; clear h
  rcases Nat.lt_or_ge I 453 with h | h
  · exact rows2_spec r2C30 (by omega) (by omega) (by omega)
  clear h1; have h1 := h; clear h
  rcases Nat.lt_or_ge I 455 with h | h
  · exact rows2_spec r2C31 (by omega) (by omega) (by omega)
  clear h1; have h1 := h; clear h
  rcases Nat.lt_or_ge I 457 with h | h
  · exact rows2_spec r2C32 (by omega) (by omega) (by omega)
  clear h1; have h1 := h; clear h
  rcases Nat.lt_or_ge I 459 with h | h
  · exact rows2_spec r2C33 (by omega) (by omega) (by omega)
  clear h1; have h1 := h; clear h
  rcases Nat.lt_or_ge I 461 with h | h
  · exact rows2_spec r2C34 (by omega) (by omega) (by omega)
  clear h1; have h1 := h; clear h
  rcases Nat.lt_or_ge I 463 with h | h
  · exact rows2_spec r2C35 (by omega) (by omega) (by omega)
  clear h1; have h1 := h; clear h
  rcases Nat.lt_or_ge I 465 with h | h
  · exact rows2_spec r2C36 (by omega) (by omega) (by omega)
  clear h1; have h1 := h; clear h
  rcases Nat.lt_or_ge I 467 with h | h
  · exact rows2_spec r2C37 (by omega) (by omega) (by omega)
  clear h1; have h1 := h; clear h
  rcases Nat.lt_or_ge I 469 with h | h
  · exact rows2_spec r2C38 (by omega) (by omega) (by omega)
  clear h1; have h1 := h; clear h
  rcases Nat.lt_or_ge I 471 with h | h
  · exact rows2_spec r2C39 (by omega) (by omega) (by omega)
  clear h1; have h1 := h; clear h
  rcases Nat.lt_or_ge I 473 with h | h
  · exact rows2_spec r2C40 (by omega) (by omega) (by omega)
  clear h1; have h1 := h; clear h
  rcases Nat.lt_or_ge I 475 with h | h
  · exact rows2_spec r2C41 (by omega) (by omega) (by omega)
  clear h1; have h1 := h; clear h
  rcases Nat.lt_or_ge I 477 with h | h
  · exact rows2_spec r2C42 (by omega) (by omega) (by omega)
  clear h1; have h1 := h; clear h
  rcases Nat.lt_or_ge I 479 with h | h
  · exact rows2_spec r2C43 (by omega) (by omega) (by omega)
  clear h1; have h1 := h; clear h
  rcases Nat.lt_or_ge I 481 with h | h
  · exact rows2_spec r2C44 (by omega) (by omega) (by omega)
  clear h1; have h1 := h; clear h
  rcases Nat.lt_or_ge I 483 with h | h
  · exact rows2_spec r2C45 (by omega) (by omega) (by omega)
  clear h1; have h1 := h; clear h
  rcases Nat.lt_or_ge I 485 with h | h
  · exact rows2_spec r2C46 (by omega) (by omega) (by omega)
  clear h1; have h1 := h; clear h
  rcases Nat.lt_or_ge I 487 with h | h
  · exact rows2_spec r2C47 (by omega) (by omega) (by omega)
  clear h1; have h1 := h; clear h
  rcases Nat.lt_or_ge I 489 with h | h
  · exact rows2_spec r2C48 (by omega) (by omega) (by omega)
  clear h1; have h1 := h; clear h
  rcases Nat.lt_or_ge I 491 with h | h
  · exact rows2_spec r2C49 (by omega) (by omega) (by omega)
  clear h1; have h1 := h; clear h
  rcases Nat.lt_or_ge I 493 with h | h
  · exact rows2_spec r2C50 (by omega) (by omega) (by omega)
  clear h1; have h1 := h; clear h
  rcases Nat.lt_or_ge I 495 with h | h
  · exact rows2_spec r2C51 (by omega) (by omega) (by omega)
  clear h1; have h1 := h; clear h
  rcases Nat.lt_or_ge I 497 with h | h
  · exact rows2_spec r2C52 (by omega) (by omega) (by omega)
  clear h1; have h1 := h; clear h
  rcases Nat.lt_or_ge I 499 with h | h
  · exact rows2_spec r2C53 (by omega) (by omega) (by omega)
  clear h1; have h1 := h; clear h
  rcases Nat.lt_or_ge I 501 with h | h
  · exact rows2_spec r2C54 (by omega) (by omega) (by omega)
  clear h1; have h1 := h; clear h
  rcases Nat.lt_or_ge I 503 with h | h
  · exact rows2_spec r2C55 (by omega) (by omega) (by omega)
  clear h1; have h1 := h; clear h
  rcases Nat.lt_or_ge I 505 with h | h
  · exact rows2_spec r2C56 (by omega) (by omega) (by omega)
  clear h1; have h1 := h; clear h
  rcases Nat.lt_or_ge I 507 with h | h
  · exact rows2_spec r2C57 (by omega) (by omega) (by omega)
  clear h1; have h1 := h; clear h
  rcases Nat.lt_or_ge I 509 with h | h
  · exact rows2_spec r2C58 (by omega) (by omega) (by omega)
  clear h1; have h1 := h; clear h
  rcases Nat.lt_or_ge I 511 with h | h
  · exact rows2_spec r2C59 (by omega) (by omega) (by omega)
  clear h1; have h1 := h; clear h
  rcases Nat.lt_or_ge I 513 with h | h
  · exact rows2_spec r2C60 (by omega) (by omega) (by omega)
  clear h1; have h1 := h; clear h
  rcases Nat.lt_or_ge I 515 with h | h
  · exact rows2_spec r2C61 (by omega) (by omega) (by omega)
  clear h1; have h1 := h; clear h
  rcases Nat.lt_or_ge I 517 with h | h
  · exact rows2_spec r2C62 (by omega) (by omega) (by omega)
  clear h1; have h1 := h; clear h
  rcases Nat.lt_or_ge I 519 with h | h
  · exact rows2_spec r2C63 (by omega) (by omega) (by omega)
  clear h1; have h1 := h; clear h
  rcases Nat.lt_or_ge I 521 with h | h
  · exact rows2_spec r2C64 (by omega) (by omega) (by omega)
  clear h1; have h1 := h; clear h
  rcases Nat.lt_or_ge I 523 with h | h
  · exact rows2_spec r2C65 (by omega) (by omega) (by omega)
  clear h1; have h1 := h; clear h
  rcases Nat.lt_or_ge I 525 with h | h
  · exact rows2_spec r2C66 (by omega) (by omega) (by omega)
  clear h1; have h1 := h; clear h
  rcases Nat.lt_or_ge I 527 with h | h
  · exact rows2_spec r2C67 (by omega) (by omega) (by omega)
  clear h1; have h1 := h; clear h
  rcases Nat.lt_or_ge I 529 with h | h
  · exact rows2_spec r2C68 (by omega) (by omega) (by omega)
  clear h1; have h1 := h; clear h
  rcases Nat.lt_or_ge I 531 with h | h
  · exact rows2_spec r2C69 (by omega) (by omega) (by omega)
  clear h1; have h1 := h; clear h
  rcases Nat.lt_or_ge I 533 with h | h
  · exact rows2_spec r2C70 (by omega) (by omega) (by omega)
  clear h1; have h1 := h; clear h
  rcases Nat.lt_or_ge I 535 with h | h
  · exact rows2_spec r2C71 (by omega) (by omega) (by omega)
  clear h1; have h1 := h; clear h
  rcases Nat.lt_or_ge I 537 with h | h
  · exact rows2_spec r2C72 (by omega) (by omega) (by omega)
  clear h1; have h1 := h; clear h
  rcases Nat.lt_or_ge I 539 with h | h
  · exact rows2_spec r2C73 (by omega) (by omega) (by omega)
  clear h1; have h1 := h; clear h
  rcases Nat.lt_or_ge I 541 with h | h
  · exact rows2_spec r2C74 (by omega) (by omega) (by omega)
  clear h1; have h1 := h; clear h
  rcases Nat.lt_or_ge I 543 with h | h
  · exact rows2_spec r2C75 (by omega) (by omega) (by omega)
  clear h1; have h1 := h; clear h
  rcases Nat.lt_or_ge I 545 with h | h
  · exact rows2_spec r2C76 (by omega) (by omega) (by omega)
  clear h1; have h1 := h; clear h
  rcases Nat.lt_or_ge I 547 with h | h
  · exact rows2_spec r2C77 (by omega) (by omega) (by omega)
  clear h1; have h1 := h; clear h
  rcases Nat.lt_or_ge I 549 with h | h
  · exact rows2_spec r2C78 (by omega) (by omega) (by omega)
  clear h1; have h1 := h; clear h
  exact rows2_spec r2C79 (by omega) (by omega) (by omega)
end Go.Proofs.YtpphfeinmmmckaaDoor
