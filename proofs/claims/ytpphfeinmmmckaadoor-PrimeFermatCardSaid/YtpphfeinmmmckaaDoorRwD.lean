/-
  Plain: rows of the sieve for two primes, I from 337 to 607: reckoned by the kernel (rowgen.py prints this text).
-/
import Derived.Test.YtpphfeinmmmckaaDoorMRow
namespace Go.Proofs.YtpphfeinmmmckaaDoor
set_option maxRecDepth 100000
theorem row337 : row 4294967296 2147483648 337 = true := by decide +kernel
theorem row339 : row 4294967296 2147483648 339 = true := by decide +kernel
theorem row341 : row 4294967296 2147483648 341 = true := by decide +kernel
theorem row343 : row 4294967296 2147483648 343 = true := by decide +kernel
theorem row345 : row 4294967296 2147483648 345 = true := by decide +kernel
theorem row347 : row 4294967296 2147483648 347 = true := by decide +kernel
theorem row349 : row 4294967296 2147483648 349 = true := by decide +kernel
theorem row351 : row 4294967296 2147483648 351 = true := by decide +kernel
theorem row353 : row 4294967296 2147483648 353 = true := by decide +kernel
theorem row355 : row 4294967296 2147483648 355 = true := by decide +kernel
theorem row357 : row 4294967296 2147483648 357 = true := by decide +kernel
theorem row359 : row 4294967296 2147483648 359 = true := by decide +kernel
theorem row361 : row 4294967296 2147483648 361 = true := by decide +kernel
theorem row363 : row 4294967296 2147483648 363 = true := by decide +kernel
theorem row365 : row 4294967296 2147483648 365 = true := by decide +kernel
theorem row367 : row 4294967296 2147483648 367 = true := by decide +kernel
theorem row369 : row 4294967296 2147483648 369 = true := by decide +kernel
theorem row371 : row 4294967296 2147483648 371 = true := by decide +kernel
theorem row373 : row 4294967296 2147483648 373 = true := by decide +kernel
theorem row375 : row 4294967296 2147483648 375 = true := by decide +kernel
theorem row377 : row 4294967296 2147483648 377 = true := by decide +kernel
theorem row379 : row 4294967296 2147483648 379 = true := by decide +kernel
theorem row381 : row 4294967296 2147483648 381 = true := by decide +kernel
theorem row383 : row 4294967296 2147483648 383 = true := by decide +kernel
theorem row385 : row 4294967296 2147483648 385 = true := by decide +kernel
theorem row387 : row 4294967296 2147483648 387 = true := by decide +kernel
theorem row389 : row 4294967296 2147483648 389 = true := by decide +kernel
theorem row391 : row 4294967296 2147483648 391 = true := by decide +kernel
theorem row393 : row 4294967296 2147483648 393 = true := by decide +kernel
theorem row395 : row 4294967296 2147483648 395 = true := by decide +kernel
theorem row397 : row 4294967296 2147483648 397 = true := by decide +kernel
theorem row399 : row 4294967296 2147483648 399 = true := by decide +kernel
theorem row401 : row 4294967296 2147483648 401 = true := by decide +kernel
theorem row403 : row 4294967296 2147483648 403 = true := by decide +kernel
theorem row405 : row 4294967296 2147483648 405 = true := by decide +kernel
theorem row407 : row 4294967296 2147483648 407 = true := by decide +kernel
theorem row409 : row 4294967296 2147483648 409 = true := by decide +kernel
theorem row411 : row 4294967296 2147483648 411 = true := by decide +kernel
theorem row413 : row 4294967296 2147483648 413 = true := by decide +kernel
theorem row415 : row 4294967296 2147483648 415 = true := by decide +kernel
theorem row417 : row 4294967296 2147483648 417 = true := by decide +kernel
theorem row419 : row 4294967296 2147483648 419 = true := by decide +kernel
theorem row421 : row 4294967296 2147483648 421 = true := by decide +kernel
theorem row423 : row 4294967296 2147483648 423 = true := by decide +kernel
theorem row425 : row 4294967296 2147483648 425 = true := by decide +kernel
theorem row427 : row 4294967296 2147483648 427 = true := by decide +kernel
theorem row429 : row 4294967296 2147483648 429 = true := by decide +kernel
theorem row431 : row 4294967296 2147483648 431 = true := by decide +kernel
theorem row433 : row 4294967296 2147483648 433 = true := by decide +kernel
theorem row435 : row 4294967296 2147483648 435 = true := by decide +kernel
theorem row437 : row 4294967296 2147483648 437 = true := by decide +kernel
theorem row439 : row 4294967296 2147483648 439 = true := by decide +kernel
theorem row441 : row 4294967296 2147483648 441 = true := by decide +kernel
theorem row443 : row 4294967296 2147483648 443 = true := by decide +kernel
theorem row445 : row 4294967296 2147483648 445 = true := by decide +kernel
theorem row447 : row 4294967296 2147483648 447 = true := by decide +kernel
theorem row449 : row 4294967296 2147483648 449 = true := by decide +kernel
theorem row451 : row 4294967296 2147483648 451 = true := by decide +kernel
theorem row453 : row 4294967296 2147483648 453 = true := by decide +kernel
theorem row455 : row 4294967296 2147483648 455 = true := by decide +kernel
theorem row457 : row 4294967296 2147483648 457 = true := by decide +kernel
theorem row459 : row 4294967296 2147483648 459 = true := by decide +kernel
theorem row461 : row 4294967296 2147483648 461 = true := by decide +kernel
theorem row463 : row 4294967296 2147483648 463 = true := by decide +kernel
theorem row465 : row 4294967296 2147483648 465 = true := by decide +kernel
theorem row467 : row 4294967296 2147483648 467 = true := by decide +kernel
theorem row469 : row 4294967296 2147483648 469 = true := by decide +kernel
theorem row471 : row 4294967296 2147483648 471 = true := by decide +kernel
theorem row473 : row 4294967296 2147483648 473 = true := by decide +kernel
theorem row475 : row 4294967296 2147483648 475 = true := by decide +kernel
theorem row477 : row 4294967296 2147483648 477 = true := by decide +kernel
theorem row479 : row 4294967296 2147483648 479 = true := by decide +kernel
theorem row481 : row 4294967296 2147483648 481 = true := by decide +kernel
theorem row483 : row 4294967296 2147483648 483 = true := by decide +kernel
theorem row485 : row 4294967296 2147483648 485 = true := by decide +kernel
theorem row487 : row 4294967296 2147483648 487 = true := by decide +kernel
theorem row489 : row 4294967296 2147483648 489 = true := by decide +kernel
theorem row491 : row 4294967296 2147483648 491 = true := by decide +kernel
theorem row493 : row 4294967296 2147483648 493 = true := by decide +kernel
theorem row495 : row 4294967296 2147483648 495 = true := by decide +kernel
theorem row497 : row 4294967296 2147483648 497 = true := by decide +kernel
theorem row499 : row 4294967296 2147483648 499 = true := by decide +kernel
theorem row501 : row 4294967296 2147483648 501 = true := by decide +kernel
theorem row503 : row 4294967296 2147483648 503 = true := by decide +kernel
theorem row505 : row 4294967296 2147483648 505 = true := by decide +kernel
theorem row507 : row 4294967296 2147483648 507 = true := by decide +kernel
theorem row509 : row 4294967296 2147483648 509 = true := by decide +kernel
theorem row511 : row 4294967296 2147483648 511 = true := by decide +kernel
theorem row513 : row 4294967296 2147483648 513 = true := by decide +kernel
theorem row515 : row 4294967296 2147483648 515 = true := by decide +kernel
theorem row517 : row 4294967296 2147483648 517 = true := by decide +kernel
theorem row519 : row 4294967296 2147483648 519 = true := by decide +kernel
theorem row521 : row 4294967296 2147483648 521 = true := by decide +kernel
theorem row523 : row 4294967296 2147483648 523 = true := by decide +kernel
theorem row525 : row 4294967296 2147483648 525 = true := by decide +kernel
theorem row527 : row 4294967296 2147483648 527 = true := by decide +kernel
theorem row529 : row 4294967296 2147483648 529 = true := by decide +kernel
theorem row531 : row 4294967296 2147483648 531 = true := by decide +kernel
theorem row533 : row 4294967296 2147483648 533 = true := by decide +kernel
theorem row535 : row 4294967296 2147483648 535 = true := by decide +kernel
theorem row537 : row 4294967296 2147483648 537 = true := by decide +kernel
theorem row539 : row 4294967296 2147483648 539 = true := by decide +kernel
theorem row541 : row 4294967296 2147483648 541 = true := by decide +kernel
theorem row543 : row 4294967296 2147483648 543 = true := by decide +kernel
theorem row545 : row 4294967296 2147483648 545 = true := by decide +kernel
theorem row547 : row 4294967296 2147483648 547 = true := by decide +kernel
theorem row549 : row 4294967296 2147483648 549 = true := by decide +kernel
theorem row551 : row 4294967296 2147483648 551 = true := by decide +kernel
theorem row553 : row 4294967296 2147483648 553 = true := by decide +kernel
theorem row555 : row 4294967296 2147483648 555 = true := by decide +kernel
theorem row557 : row 4294967296 2147483648 557 = true := by decide +kernel
theorem row559 : row 4294967296 2147483648 559 = true := by decide +kernel
theorem row561 : row 4294967296 2147483648 561 = true := by decide +kernel
theorem row563 : row 4294967296 2147483648 563 = true := by decide +kernel
theorem row565 : row 4294967296 2147483648 565 = true := by decide +kernel
theorem row567 : row 4294967296 2147483648 567 = true := by decide +kernel
theorem row569 : row 4294967296 2147483648 569 = true := by decide +kernel
theorem row571 : row 4294967296 2147483648 571 = true := by decide +kernel
theorem row573 : row 4294967296 2147483648 573 = true := by decide +kernel
theorem row575 : row 4294967296 2147483648 575 = true := by decide +kernel
theorem row577 : row 4294967296 2147483648 577 = true := by decide +kernel
theorem row579 : row 4294967296 2147483648 579 = true := by decide +kernel
theorem row581 : row 4294967296 2147483648 581 = true := by decide +kernel
theorem row583 : row 4294967296 2147483648 583 = true := by decide +kernel
theorem row585 : row 4294967296 2147483648 585 = true := by decide +kernel
theorem row587 : row 4294967296 2147483648 587 = true := by decide +kernel
theorem row589 : row 4294967296 2147483648 589 = true := by decide +kernel
theorem row591 : row 4294967296 2147483648 591 = true := by decide +kernel
theorem row593 : row 4294967296 2147483648 593 = true := by decide +kernel
theorem row595 : row 4294967296 2147483648 595 = true := by decide +kernel
theorem row597 : row 4294967296 2147483648 597 = true := by decide +kernel
theorem row599 : row 4294967296 2147483648 599 = true := by decide +kernel
theorem row601 : row 4294967296 2147483648 601 = true := by decide +kernel
theorem row603 : row 4294967296 2147483648 603 = true := by decide +kernel
theorem row605 : row 4294967296 2147483648 605 = true := by decide +kernel
theorem row607 : row 4294967296 2147483648 607 = true := by decide +kernel
theorem rwD : ∀ t, t < 136 → row 4294967296 2147483648 (337 + 2 * t) = true
  | 0, _ => row337
  | 1, _ => row339
  | 2, _ => row341
  | 3, _ => row343
  | 4, _ => row345
  | 5, _ => row347
  | 6, _ => row349
  | 7, _ => row351
  | 8, _ => row353
  | 9, _ => row355
  | 10, _ => row357
  | 11, _ => row359
  | 12, _ => row361
  | 13, _ => row363
  | 14, _ => row365
  | 15, _ => row367
  | 16, _ => row369
  | 17, _ => row371
  | 18, _ => row373
  | 19, _ => row375
  | 20, _ => row377
  | 21, _ => row379
  | 22, _ => row381
  | 23, _ => row383
  | 24, _ => row385
  | 25, _ => row387
  | 26, _ => row389
  | 27, _ => row391
  | 28, _ => row393
  | 29, _ => row395
  | 30, _ => row397
  | 31, _ => row399
  | 32, _ => row401
  | 33, _ => row403
  | 34, _ => row405
  | 35, _ => row407
  | 36, _ => row409
  | 37, _ => row411
  | 38, _ => row413
  | 39, _ => row415
  | 40, _ => row417
  | 41, _ => row419
  | 42, _ => row421
  | 43, _ => row423
  | 44, _ => row425
  | 45, _ => row427
  | 46, _ => row429
  | 47, _ => row431
  | 48, _ => row433
  | 49, _ => row435
  | 50, _ => row437
  | 51, _ => row439
  | 52, _ => row441
  | 53, _ => row443
  | 54, _ => row445
  | 55, _ => row447
  | 56, _ => row449
  | 57, _ => row451
  | 58, _ => row453
  | 59, _ => row455
  | 60, _ => row457
  | 61, _ => row459
  | 62, _ => row461
  | 63, _ => row463
  | 64, _ => row465
  | 65, _ => row467
  | 66, _ => row469
  | 67, _ => row471
  | 68, _ => row473
  | 69, _ => row475
  | 70, _ => row477
  | 71, _ => row479
  | 72, _ => row481
  | 73, _ => row483
  | 74, _ => row485
  | 75, _ => row487
  | 76, _ => row489
  | 77, _ => row491
  | 78, _ => row493
  | 79, _ => row495
  | 80, _ => row497
  | 81, _ => row499
  | 82, _ => row501
  | 83, _ => row503
  | 84, _ => row505
  | 85, _ => row507
  | 86, _ => row509
  | 87, _ => row511
  | 88, _ => row513
  | 89, _ => row515
  | 90, _ => row517
  | 91, _ => row519
  | 92, _ => row521
  | 93, _ => row523
  | 94, _ => row525
  | 95, _ => row527
  | 96, _ => row529
  | 97, _ => row531
  | 98, _ => row533
  | 99, _ => row535
  | 100, _ => row537
  | 101, _ => row539
  | 102, _ => row541
  | 103, _ => row543
  | 104, _ => row545
  | 105, _ => row547
  | 106, _ => row549
  | 107, _ => row551
  | 108, _ => row553
  | 109, _ => row555
  | 110, _ => row557
  | 111, _ => row559
  | 112, _ => row561
  | 113, _ => row563
  | 114, _ => row565
  | 115, _ => row567
  | 116, _ => row569
  | 117, _ => row571
  | 118, _ => row573
  | 119, _ => row575
  | 120, _ => row577
  | 121, _ => row579
  | 122, _ => row581
  | 123, _ => row583
  | 124, _ => row585
  | 125, _ => row587
  | 126, _ => row589
  | 127, _ => row591
  | 128, _ => row593
  | 129, _ => row595
  | 130, _ => row597
  | 131, _ => row599
  | 132, _ => row601
  | 133, _ => row603
  | 134, _ => row605
  | 135, _ => row607
  | t + 136, h => absurd h (by omega)
end Go.Proofs.YtpphfeinmmmckaaDoor
