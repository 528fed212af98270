/-
  Plain: rows of the sieve for two primes, I from 443 to 607: reckoned by the kernel (rowgen.py prints this text).
-/
import Derived.Test.YtpphfeinmmmckaaDoorRow
namespace Go.Proofs.YtpphfeinmmmckaaDoor
set_option maxRecDepth 100000
theorem row443 : row 4294967296 2147483648 443 = true := by decide +kernel
theorem row445 : row 4294967296 2147483648 445 = true := by decide +kernel
theorem row447 : row 4294967296 2147483648 447 = true := by decide +kernel
theorem row449 : row 4294967296 2147483648 449 = true := by decide +kernel
theorem row451 : row 4294967296 2147483648 451 = true := by decide +kernel
theorem row453 : row 4294967296 2147483648 453 = true := by decide +kernel
theorem row455 : row 4294967296 2147483648 455 = true := by decide +kernel
theorem row457 : row 4294967296 2147483648 457 = true := by decide +kernel
theorem row459 : row 4294967296 2147483648 459 = true := by decide +kernel
theorem row461 : row 4294967296 2147483648 461 = true := by decide +kernel
theorem row463 : row 4294967296 2147483648 463 = true := by decide +kernel
theorem row465 : row 4294967296 2147483648 465 = true := by decide +kernel
theorem row467 : row 4294967296 2147483648 467 = true := by decide +kernel
theorem row469 : row 4294967296 2147483648 469 = true := by decide +kernel
theorem row471 : row 4294967296 2147483648 471 = true := by decide +kernel
theorem row473 : row 4294967296 2147483648 473 = true := by decide +kernel
theorem row475 : row 4294967296 2147483648 475 = true := by decide +kernel
theorem row477 : row 4294967296 2147483648 477 = true := by decide +kernel
theorem row479 : row 4294967296 2147483648 479 = true := by decide +kernel
theorem row481 : row 4294967296 2147483648 481 = true := by decide +kernel
theorem row483 : row 4294967296 2147483648 483 = true := by decide +kernel
theorem row485 : row 4294967296 2147483648 485 = true := by decide +kernel
theorem row487 : row 4294967296 2147483648 487 = true := by decide +kernel
theorem row489 : row 4294967296 2147483648 489 = true := by decide +kernel
theorem row491 : row 4294967296 2147483648 491 = true := by decide +kernel
theorem row493 : row 4294967296 2147483648 493 = true := by decide +kernel
theorem row495 : row 4294967296 2147483648 495 = true := by decide +kernel
theorem row497 : row 4294967296 2147483648 497 = true := by decide +kernel
theorem row499 : row 4294967296 2147483648 499 = true := by decide +kernel
theorem row501 : row 4294967296 2147483648 501 = true := by decide +kernel
theorem row503 : row 4294967296 2147483648 503 = true := by decide +kernel
theorem row505 : row 4294967296 2147483648 505 = true := by decide +kernel
theorem row507 : row 4294967296 2147483648 507 = true := by decide +kernel
theorem row509 : row 4294967296 2147483648 509 = true := by decide +kernel
theorem row511 : row 4294967296 2147483648 511 = true := by decide +kernel
theorem row513 : row 4294967296 2147483648 513 = true := by decide +kernel
theorem row515 : row 4294967296 2147483648 515 = true := by decide +kernel
theorem row517 : row 4294967296 2147483648 517 = true := by decide +kernel
theorem row519 : row 4294967296 2147483648 519 = true := by decide +kernel
theorem row521 : row 4294967296 2147483648 521 = true := by decide +kernel
theorem row523 : row 4294967296 2147483648 523 = true := by decide +kernel
theorem row525 : row 4294967296 2147483648 525 = true := by decide +kernel
theorem row527 : row 4294967296 2147483648 527 = true := by decide +kernel
theorem row529 : row 4294967296 2147483648 529 = true := by decide +kernel
theorem row531 : row 4294967296 2147483648 531 = true := by decide +kernel
theorem row533 : row 4294967296 2147483648 533 = true := by decide +kernel
theorem row535 : row 4294967296 2147483648 535 = true := by decide +kernel
theorem row537 : row 4294967296 2147483648 537 = true := by decide +kernel
theorem row539 : row 4294967296 2147483648 539 = true := by decide +kernel
theorem row541 : row 4294967296 2147483648 541 = true := by decide +kernel
theorem row543 : row 4294967296 2147483648 543 = true := by decide +kernel
theorem row545 : row 4294967296 2147483648 545 = true := by decide +kernel
theorem row547 : row 4294967296 2147483648 547 = true := by decide +kernel
theorem row549 : row 4294967296 2147483648 549 = true := by decide +kernel
theorem row551 : row 4294967296 2147483648 551 = true := by decide +kernel
theorem row553 : row 4294967296 2147483648 553 = true := by decide +kernel
theorem row555 : row 4294967296 2147483648 555 = true := by decide +kernel
theorem row557 : row 4294967296 2147483648 557 = true := by decide +kernel
theorem row559 : row 4294967296 2147483648 559 = true := by decide +kernel
theorem row561 : row 4294967296 2147483648 561 = true := by decide +kernel
theorem row563 : row 4294967296 2147483648 563 = true := by decide +kernel
theorem row565 : row 4294967296 2147483648 565 = true := by decide +kernel
theorem row567 : row 4294967296 2147483648 567 = true := by decide +kernel
theorem row569 : row 4294967296 2147483648 569 = true := by decide +kernel
theorem row571 : row 4294967296 2147483648 571 = true := by decide +kernel
theorem row573 : row 4294967296 2147483648 573 = true := by decide +kernel
theorem row575 : row 4294967296 2147483648 575 = true := by decide +kernel
theorem row577 : row 4294967296 2147483648 577 = true := by decide +kernel
theorem row579 : row 4294967296 2147483648 579 = true := by decide +kernel
theorem row581 : row 4294967296 2147483648 581 = true := by decide +kernel
theorem row583 : row 4294967296 2147483648 583 = true := by decide +kernel
theorem row585 : row 4294967296 2147483648 585 = true := by decide +kernel
theorem row587 : row 4294967296 2147483648 587 = true := by decide +kernel
theorem row589 : row 4294967296 2147483648 589 = true := by decide +kernel
theorem row591 : row 4294967296 2147483648 591 = true := by decide +kernel
theorem row593 : row 4294967296 2147483648 593 = true := by decide +kernel
theorem row595 : row 4294967296 2147483648 595 = true := by decide +kernel
theorem row597 : row 4294967296 2147483648 597 = true := by decide +kernel
theorem row599 : row 4294967296 2147483648 599 = true := by decide +kernel
theorem row601 : row 4294967296 2147483648 601 = true := by decide +kernel
theorem row603 : row 4294967296 2147483648 603 = true := by decide +kernel
theorem row605 : row 4294967296 2147483648 605 = true := by decide +kernel
theorem row607 : row 4294967296 2147483648 607 = true := by decide +kernel
theorem rwJ : ∀ t, t < 83 → row 4294967296 2147483648 (443 + 2 * t) = true
  | 0, _ => row443
  | 1, _ => row445
  | 2, _ => row447
  | 3, _ => row449
  | 4, _ => row451
  | 5, _ => row453
  | 6, _ => row455
  | 7, _ => row457
  | 8, _ => row459
  | 9, _ => row461
  | 10, _ => row463
  | 11, _ => row465
  | 12, _ => row467
  | 13, _ => row469
  | 14, _ => row471
  | 15, _ => row473
  | 16, _ => row475
  | 17, _ => row477
  | 18, _ => row479
  | 19, _ => row481
  | 20, _ => row483
  | 21, _ => row485
  | 22, _ => row487
  | 23, _ => row489
  | 24, _ => row491
  | 25, _ => row493
  | 26, _ => row495
  | 27, _ => row497
  | 28, _ => row499
  | 29, _ => row501
  | 30, _ => row503
  | 31, _ => row505
  | 32, _ => row507
  | 33, _ => row509
  | 34, _ => row511
  | 35, _ => row513
  | 36, _ => row515
  | 37, _ => row517
  | 38, _ => row519
  | 39, _ => row521
  | 40, _ => row523
  | 41, _ => row525
  | 42, _ => row527
  | 43, _ => row529
  | 44, _ => row531
  | 45, _ => row533
  | 46, _ => row535
  | 47, _ => row537
  | 48, _ => row539
  | 49, _ => row541
  | 50, _ => row543
  | 51, _ => row545
  | 52, _ => row547
  | 53, _ => row549
  | 54, _ => row551
  | 55, _ => row553
  | 56, _ => row555
  | 57, _ => row557
  | 58, _ => row559
  | 59, _ => row561
  | 60, _ => row563
  | 61, _ => row565
  | 62, _ => row567
  | 63, _ => row569
  | 64, _ => row571
  | 65, _ => row573
  | 66, _ => row575
  | 67, _ => row577
  | 68, _ => row579
  | 69, _ => row581
  | 70, _ => row583
  | 71, _ => row585
  | 72, _ => row587
  | 73, _ => row589
  | 74, _ => row591
  | 75, _ => row593
  | 76, _ => row595
  | 77, _ => row597
  | 78, _ => row599
  | 79, _ => row601
  | 80, _ => row603
  | 81, _ => row605
  | 82, _ => row607
  | t + 83, h => absurd h (by omega)
end Go.Proofs.YtpphfeinmmmckaaDoor
