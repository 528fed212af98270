/-
  Plain: rows of the sieve for two primes beyond the first rows, I from 551 to 788: reckoned by the kernel (row2gen.py prints this text).
-/
import Derived.Test.YtpphfeinmmmckaaDoorMRow2
namespace Go.Proofs.YtpphfeinmmmckaaDoor
set_option maxRecDepth 100000
theorem r2D0 : rows2 551 1 = true := by decide +kernel
theorem r2D1 : rows2 553 1 = true := by decide +kernel
theorem r2D2 : rows2 555 1 = true := by decide +kernel
theorem r2D3 : rows2 557 1 = true := by decide +kernel
theorem r2D4 : rows2 559 1 = true := by decide +kernel
theorem r2D5 : rows2 561 1 = true := by decide +kernel
theorem r2D6 : rows2 563 1 = true := by decide +kernel
theorem r2D7 : rows2 565 1 = true := by decide +kernel
theorem r2D8 : rows2 567 1 = true := by decide +kernel
theorem r2D9 : rows2 569 1 = true := by decide +kernel
theorem r2D10 : rows2 571 1 = true := by decide +kernel
theorem r2D11 : rows2 573 1 = true := by decide +kernel
theorem r2D12 : rows2 575 1 = true := by decide +kernel
theorem r2D13 : rows2 577 1 = true := by decide +kernel
theorem r2D14 : rows2 579 1 = true := by decide +kernel
theorem r2D15 : rows2 581 1 = true := by decide +kernel
theorem r2D16 : rows2 583 1 = true := by decide +kernel
theorem r2D17 : rows2 585 1 = true := by decide +kernel
theorem r2D18 : rows2 587 1 = true := by decide +kernel
theorem r2D19 : rows2 589 1 = true := by decide +kernel
theorem r2D20 : rows2 591 1 = true := by decide +kernel
theorem r2D21 : rows2 593 1 = true := by decide +kernel
theorem r2D22 : rows2 595 1 = true := by decide +kernel
theorem r2D23 : rows2 597 1 = true := by decide +kernel
theorem r2D24 : rows2 599 1 = true := by decide +kernel
theorem r2D25 : rows2 601 1 = true := by decide +kernel
theorem r2D26 : rows2 603 1 = true := by decide +kernel
theorem r2D27 : rows2 605 1 = true := by decide +kernel
theorem r2D28 : rows2 607 1 = true := by decide +kernel
theorem r2D29 : rows2 609 1 = true := by decide +kernel
theorem r2D30 : rows2 611 1 = true := by decide +kernel
theorem r2D31 : rows2 613 1 = true := by decide +kernel
theorem r2D32 : rows2 615 1 = true := by decide +kernel
theorem r2D33 : rows2 617 1 = true := by decide +kernel
theorem r2D34 : rows2 619 1 = true := by decide +kernel
theorem r2D35 : rows2 621 1 = true := by decide +kernel
theorem r2D36 : rows2 623 1 = true := by decide +kernel
theorem r2D37 : rows2 625 2 = true := by decide +kernel
theorem r2D38 : rows2 629 1 = true := by decide +kernel
theorem r2D39 : rows2 631 1 = true := by decide +kernel
theorem r2D40 : rows2 633 2 = true := by decide +kernel
theorem r2D41 : rows2 637 2 = true := by decide +kernel
theorem r2D42 : rows2 641 1 = true := by decide +kernel
theorem r2D43 : rows2 643 1 = true := by decide +kernel
theorem r2D44 : rows2 645 2 = true := by decide +kernel
theorem r2D45 : rows2 649 2 = true := by decide +kernel
theorem r2D46 : rows2 653 1 = true := by decide +kernel
theorem r2D47 : rows2 655 2 = true := by decide +kernel
theorem r2D48 : rows2 659 1 = true := by decide +kernel
theorem r2D49 : rows2 661 1 = true := by decide +kernel
theorem r2D50 : rows2 663 2 = true := by decide +kernel
theorem r2D51 : rows2 667 2 = true := by decide +kernel
theorem r2D52 : rows2 671 1 = true := by decide +kernel
theorem r2D53 : rows2 673 2 = true := by decide +kernel
theorem r2D54 : rows2 677 1 = true := by decide +kernel
theorem r2D55 : rows2 679 2 = true := by decide +kernel
theorem r2D56 : rows2 683 1 = true := by decide +kernel
theorem r2D57 : rows2 685 2 = true := by decide +kernel
theorem r2D58 : rows2 689 1 = true := by decide +kernel
theorem r2D59 : rows2 691 2 = true := by decide +kernel
theorem r2D60 : rows2 695 2 = true := by decide +kernel
theorem r2D61 : rows2 699 2 = true := by decide +kernel
theorem r2D62 : rows2 703 2 = true := by decide +kernel
theorem r2D63 : rows2 707 2 = true := by decide +kernel
theorem r2D64 : rows2 711 2 = true := by decide +kernel
theorem r2D65 : rows2 715 2 = true := by decide +kernel
theorem r2D66 : rows2 719 2 = true := by decide +kernel
theorem r2D67 : rows2 723 2 = true := by decide +kernel
theorem r2D68 : rows2 727 2 = true := by decide +kernel
theorem r2D69 : rows2 731 1 = true := by decide +kernel
theorem r2D70 : rows2 733 2 = true := by decide +kernel
theorem r2D71 : rows2 737 2 = true := by decide +kernel
theorem r2D72 : rows2 741 2 = true := by decide +kernel
theorem r2D73 : rows2 745 2 = true := by decide +kernel
theorem r2D74 : rows2 749 2 = true := by decide +kernel
theorem r2D75 : rows2 753 2 = true := by decide +kernel
theorem r2D76 : rows2 757 2 = true := by decide +kernel
theorem r2D77 : rows2 761 2 = true := by decide +kernel
theorem r2D78 : rows2 765 2 = true := by decide +kernel
theorem r2D79 : rows2 769 2 = true := by decide +kernel
theorem r2D80 : rows2 773 2 = true := by decide +kernel
theorem r2D81 : rows2 777 2 = true := by decide +kernel
theorem r2D82 : rows2 781 2 = true := by decide +kernel
theorem r2D83 : rows2 785 2 = true := by decide +kernel
theorem r2D (I : Nat) (ho : I % 2 = 1) (h1 : 551 ≤ I) (h2 : I < 789) : row2 I = true := by
  rcases Nat.lt_or_ge I 553 with h | h
  · exact rows2_spec r2D0 (by omega) (by omega) (by omega)
  clear h1; have h1 := h; clear h
  rcases Nat.lt_or_ge I 555 with h | h
  · exact rows2_spec r2D1 (by omega) (by omega) (by omega)
  clear h1; have h1 := h; clear h
  rcases Nat.lt_or_ge I 557 with h | h
  · exact rows2_spec r2D2 (by omega) (by omega) (by omega)
  clear h1; have h1 := h; clear h
  rcases Nat.lt_or_ge I 559 with h | h
  · exact rows2_spec r2D3 (by omega) (by omega) (by omega)
  clear h1; have h1 := h; clear h
  rcases Nat.lt_or_ge I 561 with h | h
  · exact rows2_spec r2D4 (by omega) (by omega) (by omega)
  clear h1; have h1 := h; clear h
  rcases Nat.lt_or_ge I 563 with h | h
  · exact rows2_spec r2D5 (by omega) (by omega) (by omega)
  clear h1; have h1 := h; clear h
  rcases Nat.lt_or_ge I 565 with h | h
  · exact rows2_spec r2D6 (by omega) (by omega) (by omega)
  clear h1; have h1 := h; clear h
  rcases Nat.lt_or_ge I 567 with h | h
  · exact rows2_spec r2D7 (by omega) (by omega) (by omega)
  clear h1; have h1 := h; clear h
  rcases Nat.lt_or_ge I 569 with h | h
  · exact rows2_spec r2D8 (by omega) (by omega) (by omega)
  clear h1; have h1 := h; clear h
  rcases Nat.lt_or_ge I 571 with h | h
  · exact rows2_spec r2D9 (by omega) (by omega) (by omega)
  clear h1; have h1 := h; clear h
  rcases Nat.lt_or_ge I 573 with h | h
  · exact rows2_spec r2D10 (by omega) (by omega) (by omega)
  clear h1; have h1 := h; clear h
  rcases Nat.lt_or_ge I 575 with h | h
  · exact rows2_spec r2D11 (by omega) (by omega) (by omega)
  clear h1; have h1 := h; clear h
  rcases Nat.lt_or_ge I 577 with h | h
  · exact rows2_spec r2D12 (by omega) (by omega) (by omega)
  clear h1; have h1 := h; clear h
  rcases Nat.lt_or_ge I 579 with h | h
  · exact rows2_spec r2D13 (by omega) (by omega) (by omega)
  clear h1; have h1 := h; clear h
  rcases Nat.lt_or_ge I 581 with h | h
  · exact rows2_spec r2D14 (by omega) (by omega) (by omega)
  clear h1; have h1 := h; clear h
  rcases Nat.lt_or_ge I 583 with h | h
  · exact rows2_spec r2D15 (by omega) (by omega) (by omega)
  clear h1; have h1 := h; clear h
  rcases Nat.lt_or_ge I 585 with h | h
  · exact rows2_spec r2D16 (by omega) (by omega) (by omega)
  clear h1; have h1 := h; clear h
  rcases Nat.lt_or_ge I 587 with h | h
  · exact rows2_spec r2D17 (by omega) (by omega) (by omega)
  clear h1; have h1 := h; clear h
  rcases Nat.lt_or_ge I 589 with h | h
  · exact rows2_spec r2D18 (by omega) (by omega) (by omega)
  clear h1; have h1 := h; clear h
  rcases Nat.lt_or_ge I 591 with h | h
  · exact rows2_spec r2D19 (by omega) (by omega) (by omega)
  clear h1; have h1 := h; clear h
  rcases Nat.lt_or_ge I 593 with h | h
  · exact rows2_spec r2D20 (by omega) (by omega) (by omega)
  clear h1; have h1 := h; clear h
  rcases Nat.lt_or_ge I 595 with h | h
  · exact rows2_spec r2D21 (by omega) (by omega) (by omega)
  clear h1; have h1 := h; clear h
  rcases Nat.lt_or_ge I 597 with h | h
  · exact rows2_spec r2D22 (by omega) (by omega) (by omega)
  clear h1; have h1 := h; clear h
  rcases Nat.lt_or_ge I 599 with h | h
  · exact rows2_spec r2D23 (by omega) (by omega) (by omega)
  clear h1; have h1 := h; clear h
  rcases Nat.lt_or_ge I 601 with h | h
  · exact rows2_spec r2D24 (by omega) (by omega) (by omega)
  clear h1; have h1 := h; clear h
  rcases Nat.lt_or_ge I 603 with h | h
  · exact rows2_spec r2D25 (by omega) (by omega) (by omega)
  clear h1; have h1 := h; clear h
  rcases Nat.lt_or_ge I 605 with h | h
  · exact rows2_spec r2D26 (by omega) (by omega) (by omega)
  clear h1; have h1 := h; clear h
  rcases Nat.lt_or_ge I 607 with h | h
  · exact rows2_spec r2D27 (by omega) (by omega) (by omega)
  clear h1; have h1 := h; clear h
  rcases Nat.lt_or_ge I 609 with h | h
  · exact rows2_spec r2D28 (by omega) (by omega) (by omega)
  clear h1; have h1 := h; clear h
  rcases Nat.lt_or_ge I 611 with h | h
  · exact rows2_spec r2D29 (by omega) (by omega) (by omega)
  clear h1; have h1 := h; clear h
  rcases Nat.lt_or_ge I 613 with h | h
  · exact rows2_spec r2D30 (by omega) (by omega) (by omega)
  clear h1; have h1 := h; clear h
  rcases Nat.lt_or_ge I 615 with h | h
  · exact rows2_spec r2D31 (by omega) (by omega) (by omega)
  clear h1; have h1 := h; clear h
  rcases Nat.lt_or_ge I 617 with h | h
  · exact rows2_spec r2D32 (by omega) (by omega) (by omega)
  clear h1; have h1 := h; clear h
  rcases Nat.lt_or_ge I 619 with h | h
  · exact rows2_spec r2D33 (by omega) (by omega) (by omega)
  clear h1; have h1 := h; clear h
  rcases Nat.lt_or_ge I 621 with h | h
  · exact rows2_spec r2D34 (by omega) (by omega) (by omega)
  clear h1; have h1 := h; clear h
  rcases Nat.lt_or_ge I 623 with h | h
  · exact rows2_spec r2D35 (by omega) (by omega) (by omega)
  clear h1; have h1 := h; clear h
  rcases Nat.lt_or_ge I 625 with h | h
  · exact rows2_spec r2D36 (by omega) (by omega) (by omega)
  clear h1; have h1 := h; clear h
  rcases Nat.lt_or_ge I 629 with h | h
  · exact rows2_spec r2D37 (by omega) (by omega) (by omega)
  clear h1; have h1 := h; clear h
  rcases Nat.lt_or_ge I 631 with h | h
  · exact rows2_spec r2D38 (by omega) (by omega) (by omega)
  clear h1; have h1 := h; clear h
  rcases Nat.lt_or_ge I 633 with h | h
  · exact rows2_spec r2D39 (by omega) (by omega) (by omega)
  clear h1; have h1 := h; clear h
  rcases Nat.lt_or_ge I 637 with h | h
  · exact rows2_spec r2D40 (by omega) (by omega) (by omega)
  clear h1; have h1 := h; clear h
  rcases Nat.lt_or_ge I 641 with h | h
  · exact rows2_spec r2D41 (by omega) (by omega) (by omega)
  clear h1; have h1 := h; clear h
  rcases Nat.lt_or_ge I 643 with h | h
  · exact rows2_spec r2D42 (by omega) (by omega) (by omega)
  clear h1; have h1 := h; clear h
  rcases Nat.lt_or_ge I 645 with h | h
  · exact rows2_spec r2D43 (by omega) (by omega) (by omega)
  clear h1; have h1 := h; clear h
  rcases Nat.lt_or_ge I 649 with h | h
  · exact rows2_spec r2D44 (by omega) (by omega) (by omega)
  clear h1; have h1 := h; clear h
  rcases Nat.lt_or_ge I 653 with h | h
  · exact rows2_spec r2D45 (by omega) (by omega) (by omega)
  clear h1; have h1 := h; clear h
  rcases Nat.lt_or_ge I 655 with h | h
  · exact rows2_spec r2D46 (by omega) (by omega) (by omega)
  clear h1; have h1 := h; clear h
  rcases Nat.lt_or_ge I 659 with h | h
  · exact rows2_spec r2D47 (by omega) (by omega) (by omega)
  clear h1; have h1 := h; clear h
  rcases Nat.lt_or_ge I 661 with h | h
  · exact rows2_spec r2D48 (by omega) (by omega) (by omega)
  clear h1; have h1 := h; clear h
  rcases Nat.lt_or_ge I 663 with h | h
  · exact rows2_spec r2D49 (by omega) (by omega) (by omega)
  clear h1; have h1 := h; clear h
  rcases Nat.lt_or_ge I 667 with h | h
  · exact rows2_spec r2D50 (by omega) (by omega) (by omega)
  clear h1; have h1 := h; clear h
  rcases Nat.lt_or_ge I 671 with h | h
  · exact rows2_spec r2D51 (by omega) (by omega) (by omega)
  clear h1; have h1 := h; clear h
  rcases Nat.lt_or_ge I 673 with h | h
  · exact rows2_spec r2D52 (by omega) (by omega) (by omega)
  clear h1; have h1 := h; clear h
  rcases Nat.lt_or_ge I 677 with h | h
  · exact rows2_spec r2D53 (by omega) (by omega) (by omega)
  clear h1; have h1 := h; clear h
  rcases Nat.lt_or_ge I 679 with h | h
  · exact rows2_spec r2D54 (by omega) (by omega) (by omega)
  clear h1; have h1 := h; clear h
  rcases Nat.lt_or_ge I 683 with h | h
  · exact rows2_spec r2D55 (by omega) (by omega) (by omega)
  clear h1; have h1 := h; clear h
  rcases Nat.lt_or_ge I 685 with h | h
  · exact rows2_spec r2D56 (by omega) (by omega) (by omega)
  clear h1; have h1 := h; clear h
  rcases Nat.lt_or_ge I 689 with h | h
  · exact rows2_spec r2D57 (by omega) (by omega) (by omega)
  clear h1; have h1 := h; clear h
  rcases Nat.lt_or_ge I 691 with h | h
  · exact rows2_spec r2D58 (by omega) (by omega) (by omega)
  clear h1; have h1 := h; clear h
  rcases Nat.lt_or_ge I 695 with h | h
  · exact rows2_spec r2D59 (by omega) (by omega) (by omega)
  clear h1; have h1 := h; clear h
  rcases Nat.lt_or_ge I 699 with h | h
  · exact rows2_spec r2D60 (by omega) (by omega) (by omega)
  clear h1; have h1 := h; clear h
  rcases Nat.lt_or_ge I 703 with h | h
  · exact rows2_spec r2D61 (by omega) (by omega) (by omega)
  clear h1; have h1 := h; clear h
  rcases Nat.lt_or_ge I 707 with h | h
  · exact rows2_spec r2D62 (by omega) (by omega) (by omega)
  clear h1; have h1 := h; clear h
  rcases Nat.lt_or_ge I 711 with h | h
  · exact rows2_spec r2D63 (by omega) (by omega) (by omega)
  clear h1; have h1 := h; clear h
  rcases Nat.lt_or_ge I 715 with h | h
  · exact rows2_spec r2D64 (by omega) (by omega) (by omega)
  clear h1; have h1 := h; clear h
  rcases Nat.lt_or_ge I 719 with h | h
  · exact rows2_spec r2D65 (by omega) (by omega) (by omega)
  clear h1; have h1 := h; clear h
  rcases Nat.lt_or_ge I 723 with h | h
  · exact rows2_spec r2D66 (by omega) (by omega) (by omega)
  clear h1; have h1 := h; clear h
  rcases Nat.lt_or_ge I 727 with h | h
  · exact rows2_spec r2D67 (by omega) (by omega) (by omega)
  clear h1; have h1 := h; clear h
  rcases Nat.lt_or_ge I 731 with h | h
  · exact rows2_spec r2D68 (by omega) (by omega) (by omega)
  clear h1; have h1 := h; clear h
  rcases Nat.lt_or_ge I 733 with h | h
  · exact rows2_spec r2D69 (by omega) (by omega) (by omega)
  clear h1; have h1 := h; clear h
  rcases Nat.lt_or_ge I 737 with h | h
  · exact rows2_spec r2D70 (by omega) (by omega) (by omega)
  clear h1; have h1 := h; clear h
  rcases Nat.lt_or_ge I 741 with h | h
  · exact rows2_spec r2D71 (by omega) (by omega) (by omega)
  clear h1; have h1 := h; clear h
  rcases Nat.lt_or_ge I 745 with h | h
  · exact rows2_spec r2D72 (by omega) (by omega) (by omega)
  clear h1; have h1 := h; clear h
  rcases Nat.lt_or_ge I 749 with h | h
  · exact rows2_spec r2D73 (by omega) (by omega) (by omega)
  clear h1; have h1 := h; clear h
  rcases Nat.lt_or_ge I 753 with h | h
  · exact rows2_spec r2D74 (by omega) (by omega) (by omega)
  clear h1; have h1 := h; clear h
  rcases Nat.lt_or_ge I 757 with h | h
  · exact rows2_spec r2D75 (by omega) (by omega) (by omega)
  clear h1; have h1 := h; clear h
  rcases Nat.lt_or_ge I 761 with h | h
  · exact rows2_spec r2D76 (by omega) (by omega) (by omega)
  clear h1; have h1 := h; clear h
  rcases Nat.lt_or_ge I 765 with h | h
  · exact rows2_spec r2D77 (by omega) (by omega) (by omega)
  clear h1; have h1 := h; clear h
  rcases Nat.lt_or_ge I 769 with h | h
  · exact rows2_spec r2D78 (by omega) (by omega) (by omega)
  clear h1; have h1 := h; clear h
  rcases Nat.lt_or_ge I 773 with h | h
  · exact rows2_spec r2D79 (by omega) (by omega) (by omega)
  clear h1; have h1 := h; clear h
  rcases Nat.lt_or_ge I 777 with h | h
  · exact rows2_spec r2D80 (by omega) (by omega) (by omega)
  clear h1; have h1 := h; clear h
  rcases Nat.lt_or_ge I 781 with h | h
  · exact rows2_spec r2D81 (by omega) (by omega) (by omega)
  clear h1; have h1 := h; clear h
  rcases Nat.lt_or_ge I 785 with h | h
  · exact rows2_spec r2D82 (by omega) (by omega) (by omega)
  clear h1; have h1 := h; clear h
  exact rows2_spec r2D83 (by omega) (by omega) (by omega)
end Go.Proofs.YtpphfeinmmmckaaDoor
