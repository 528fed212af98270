/-
  Plain: rows of the sieve for two primes beyond the first rows, I from 1371 to 6684: reckoned by the kernel (row2gen.py prints this text).
-/
import Derived.Test.YtpphfeinmmmckaaDoorMRow2
namespace Go.Proofs.YtpphfeinmmmckaaDoor
set_option maxRecDepth 100000
theorem r2F0 : rows2 1371 8 = true := by decide +kernel
theorem r2F1 : rows2 1387 8 = true := by decide +kernel
theorem r2F2 : rows2 1403 8 = true := by decide +kernel
theorem r2F3 : rows2 1419 9 = true := by decide +kernel
theorem r2F4 : rows2 1437 9 = true := by decide +kernel
theorem r2F5 : rows2 1455 10 = true := by decide +kernel
theorem r2F6 : rows2 1475 10 = true := by decide +kernel
theorem r2F7 : rows2 1495 10 = true := by decide +kernel
theorem r2F8 : rows2 1515 10 = true := by decide +kernel
theorem r2F9 : rows2 1535 10 = true := by decide +kernel
theorem r2F10 : rows2 1555 11 = true := by decide +kernel
theorem r2F11 : rows2 1577 10 = true := by decide +kernel
theorem r2F12 : rows2 1597 11 = true := by decide +kernel
theorem r2F13 : rows2 1619 12 = true := by decide +kernel
theorem r2F14 : rows2 1643 12 = true := by decide +kernel
theorem r2F15 : rows2 1667 12 = true := by decide +kernel
theorem r2F16 : rows2 1691 13 = true := by decide +kernel
theorem r2F17 : rows2 1717 12 = true := by decide +kernel
theorem r2F18 : rows2 1741 13 = true := by decide +kernel
theorem r2F19 : rows2 1767 14 = true := by decide +kernel
theorem r2F20 : rows2 1795 15 = true := by decide +kernel
theorem r2F21 : rows2 1825 15 = true := by decide +kernel
theorem r2F22 : rows2 1855 16 = true := by decide +kernel
theorem r2F23 : rows2 1887 16 = true := by decide +kernel
theorem r2F24 : rows2 1919 16 = true := by decide +kernel
theorem r2F25 : rows2 1951 17 = true := by decide +kernel
theorem r2F26 : rows2 1985 18 = true := by decide +kernel
theorem r2F27 : rows2 2021 19 = true := by decide +kernel
theorem r2F28 : rows2 2059 19 = true := by decide +kernel
theorem r2F29 : rows2 2097 20 = true := by decide +kernel
theorem r2F30 : rows2 2137 20 = true := by decide +kernel
theorem r2F31 : rows2 2177 22 = true := by decide +kernel
theorem r2F32 : rows2 2221 23 = true := by decide +kernel
theorem r2F33 : rows2 2267 23 = true := by decide +kernel
theorem r2F34 : rows2 2313 24 = true := by decide +kernel
theorem r2F35 : rows2 2361 25 = true := by decide +kernel
theorem r2F36 : rows2 2411 28 = true := by decide +kernel
theorem r2F37 : rows2 2467 28 = true := by decide +kernel
theorem r2F38 : rows2 2523 29 = true := by decide +kernel
theorem r2F39 : rows2 2581 30 = true := by decide +kernel
theorem r2F40 : rows2 2641 33 = true := by decide +kernel
theorem r2F41 : rows2 2707 35 = true := by decide +kernel
theorem r2F42 : rows2 2777 36 = true := by decide +kernel
theorem r2F43 : rows2 2849 37 = true := by decide +kernel
theorem r2F44 : rows2 2923 43 = true := by decide +kernel
theorem r2F45 : rows2 3009 46 = true := by decide +kernel
theorem r2F46 : rows2 3101 47 = true := by decide +kernel
theorem r2F47 : rows2 3195 51 = true := by decide +kernel
theorem r2F48 : rows2 3297 55 = true := by decide +kernel
theorem r2F49 : rows2 3407 57 = true := by decide +kernel
theorem r2F50 : rows2 3521 62 = true := by decide +kernel
theorem r2F51 : rows2 3645 75 = true := by decide +kernel
theorem r2F52 : rows2 3795 78 = true := by decide +kernel
theorem r2F53 : rows2 3951 89 = true := by decide +kernel
theorem r2F54 : rows2 4129 95 = true := by decide +kernel
theorem r2F55 : rows2 4319 109 = true := by decide +kernel
theorem r2F56 : rows2 4537 127 = true := by decide +kernel
theorem r2F57 : rows2 4791 160 = true := by decide +kernel
theorem r2F58 : rows2 5111 222 = true := by decide +kernel
theorem r2F59 : rows2 5555 565 = true := by decide +kernel
theorem r2F (I : Nat) (ho : I % 2 = 1) (h1 : 1371 ≤ I) (h2 : I < 6685) : row2 I = true := by
  rcases Nat.lt_or_ge I 1387 with h | h
  · exact rows2_spec r2F0 (by omega) (by omega) (by omega)
  clear h1; have h1 := h; clear h
  rcases Nat.lt_or_ge I 1403 with h | h
  · exact rows2_spec r2F1 (by omega) (by omega) (by omega)
  clear h1; have h1 := h; clear h
  rcases Nat.lt_or_ge I 1419 with h | h
  · exact rows2_spec r2F2 (by omega) (by omega) (by omega)
  clear h1; have h1 := h; clear h
  rcases Nat.lt_or_ge I 1437 with h | h
  · exact rows2_spec r2F3 (by omega) (by omega) (by omega)
  clear h1; have h1 := h; clear h
  rcases Nat.lt_or_ge I 1455 with h | h
  · exact rows2_spec r2F4 (by omega) (by omega) (by omega)
  clear h1; have h1 := h; clear h
  rcases Nat.lt_or_ge I 1475 with h | h
  · exact rows2_spec r2F5 (by omega) (by omega) (by omega)
  clear h1; have h1 := h; clear h
  rcases Nat.lt_or_ge I 1495 with h | h
  · exact rows2_spec r2F6 (by omega) (by omega) (by omega)
  clear h1; have h1 := h; clear h
  rcases Nat.lt_or_ge I 1515 with h | h
  · exact rows2_spec r2F7 (by omega) (by omega) (by omega)
  clear h1; have h1 := h; clear h
  rcases Nat.lt_or_ge I 1535 with h | h
  · exact rows2_spec r2F8 (by omega) (by omega) (by omega)
  clear h1; have h1 := h; clear h
  rcases Nat.lt_or_ge I 1555 with h | h
  · exact rows2_spec r2F9 (by omega) (by omega) (by omega)
  clear h1; have h1 := h; clear h
  rcases Nat.lt_or_ge I 1577 with h | h
  · exact rows2_spec r2F10 (by omega) (by omega) (by omega)
  clear h1; have h1 := h; clear h
  rcases Nat.lt_or_ge I 1597 with h | h
  · exact rows2_spec r2F11 (by omega) (by omega) (by omega)
  clear h1; have h1 := h; clear h
  rcases Nat.lt_or_ge I 1619 with h | h
  · exact rows2_spec r2F12 (by omega) (by omega) (by omega)
  clear h1; have h1 := h; clear h
  rcases Nat.lt_or_ge I 1643 with h | h
  · exact rows2_spec r2F13 (by omega) (by omega) (by omega)
  clear h1; have h1 := h; clear h
  rcases Nat.lt_or_ge I 1667 with h | h
  · exact rows2_spec r2F14 (by omega) (by omega) (by omega)
  clear h1; have h1 := h; clear h
  rcases Nat.lt_or_ge I 1691 with h | h
  · exact rows2_spec r2F15 (by omega) (by omega) (by omega)
  clear h1; have h1 := h; clear h
  rcases Nat.lt_or_ge I 1717 with h | h
  · exact rows2_spec r2F16 (by omega) (by omega) (by omega)
  clear h1; have h1 := h; clear h
  rcases Nat.lt_or_ge I 1741 with h | h
  · exact rows2_spec r2F17 (by omega) (by omega) (by omega)
  clear h1; have h1 := h; clear h
  rcases Nat.lt_or_ge I 1767 with h | h
  · exact rows2_spec r2F18 (by omega) (by omega) (by omega)
  clear h1; have h1 := h; clear h
  rcases Nat.lt_or_ge I 1795 with h | h
  · exact rows2_spec r2F19 (by omega) (by omega) (by omega)
  clear h1; have h1 := h; clear h
  rcases Nat.lt_or_ge I 1825 with h | h
  · exact rows2_spec r2F20 (by omega) (by omega) (by omega)
  clear h1; have h1 := h; clear h
  rcases Nat.lt_or_ge I 1855 with h | h
  · exact rows2_spec r2F21 (by omega) (by omega) (by omega)
  clear h1; have h1 := h; clear h
  rcases Nat.lt_or_ge I 1887 with h | h
  · exact rows2_spec r2F22 (by omega) (by omega) (by omega)
  clear h1; have h1 := h; clear h
  rcases Nat.lt_or_ge I 1919 with h | h
  · exact rows2_spec r2F23 (by omega) (by omega) (by omega)
  clear h1; have h1 := h; clear h
  rcases Nat.lt_or_ge I 1951 with h | h
  · exact rows2_spec r2F24 (by omega) (by omega) (by omega)
  clear h1; have h1 := h; clear h
  rcases Nat.lt_or_ge I 1985 with h | h
  · exact rows2_spec r2F25 (by omega) (by omega) (by omega)
  clear h1; have h1 := h; clear h
  rcases Nat.lt_or_ge I 2021 with h | h
  · exact rows2_spec r2F26 (by omega) (by omega) (by omega)
  clear h1; have h1 := h; clear h
  rcases Nat.lt_or_ge I 2059 with h | h
  · exact rows2_spec r2F27 (by omega) (by omega) (by omega)
  clear h1; have h1 := h; clear h
  rcases Nat.lt_or_ge I 2097 with h | h
  · exact rows2_spec r2F28 (by omega) (by omega) (by omega)
  clear h1; have h1 := h; clear h
  rcases Nat.lt_or_ge I 2137 with h | h
  · exact rows2_spec r2F29 (by omega) (by omega) (by omega)
  clear h1; have h1 := h; clear h
  rcases Nat.lt_or_ge I 2177 with h | h
  · exact rows2_spec r2F30 (by omega) (by omega) (by omega)
  clear h1; have h1 := h; clear h
  rcases Nat.lt_or_ge I 2221 with h | h
  · exact rows2_spec r2F31 (by omega) (by omega) (by omega)
  clear h1; have h1 := h; clear h
  rcases Nat.lt_or_ge I 2267 with h | h
  · exact rows2_spec r2F32 (by omega) (by omega) (by omega)
  clear h1; have h1 := h; clear h
  rcases Nat.lt_or_ge I 2313 with h | h
  · exact rows2_spec r2F33 (by omega) (by omega) (by omega)
  clear h1; have h1 := h; clear h
  rcases Nat.lt_or_ge I 2361 with h | h
  · exact rows2_spec r2F34 (by omega) (by omega) (by omega)
  clear h1; have h1 := h; clear h
  rcases Nat.lt_or_ge I 2411 with h | h
  · exact rows2_spec r2F35 (by omega) (by omega) (by omega)
  clear h1; have h1 := h; clear h
  rcases Nat.lt_or_ge I 2467 with h | h
  · exact rows2_spec r2F36 (by omega) (by omega) (by omega)
  clear h1; have h1 := h; clear h
  rcases Nat.lt_or_ge I 2523 with h | h
  · exact rows2_spec r2F37 (by omega) (by omega) (by omega)
  clear h1; have h1 := h; clear h
  rcases Nat.lt_or_ge I 2581 with h | h
  · exact rows2_spec r2F38 (by omega) (by omega) (by omega)
  clear h1; have h1 := h; clear h
  rcases Nat.lt_or_ge I 2641 with h | h
  · exact rows2_spec r2F39 (by omega) (by omega) (by omega)
  clear h1; have h1 := h; clear h
  rcases Nat.lt_or_ge I 2707 with h | h
  · exact rows2_spec r2F40 (by omega) (by omega) (by omega)
  clear h1; have h1 := h; clear h
  rcases Nat.lt_or_ge I 2777 with h | h
  · exact rows2_spec r2F41 (by omega) (by omega) (by omega)
  clear h1; have h1 := h; clear h
  rcases Nat.lt_or_ge I 2849 with h | h
  · exact rows2_spec r2F42 (by omega) (by omega) (by omega)
  clear h1; have h1 := h; clear h
  rcases Nat.lt_or_ge I 2923 with h | h
  · exact rows2_spec r2F43 (by omega) (by omega) (by omega)
  clear h1; have h1 := h; clear h
  rcases Nat.lt_or_ge I 3009 with h | h
  · exact rows2_spec r2F44 (by omega) (by omega) (by omega)
  clear h1; have h1 := h; clear h
  rcases Nat.lt_or_ge I 3101 with h | h
  · exact rows2_spec r2F45 (by omega) (by omega) (by omega)
  clear h1; have h1 := h; clear h
  rcases Nat.lt_or_ge I 3195 with h | h
  · exact rows2_spec r2F46 (by omega) (by omega) (by omega)
  clear h1; have h1 := h; clear h
  rcases Nat.lt_or_ge I 3297 with h | h
  · exact rows2_spec r2F47 (by omega) (by omega) (by omega)
  clear h1; have h1 := h; clear h
  rcases Nat.lt_or_ge I 3407 with h | h
  · exact rows2_spec r2F48 (by omega) (by omega) (by omega)
  clear h1; have h1 := h; clear h
  rcases Nat.lt_or_ge I 3521 with h | h
  · exact rows2_spec r2F49 (by omega) (by omega) (by omega)
  clear h1; have h1 := h; clear h
  rcases Nat.lt_or_ge I 3645 with h | h
  · exact rows2_spec r2F50 (by omega) (by omega) (by omega)
  clear h1; have h1 := h; clear h
  rcases Nat.lt_or_ge I 3795 with h | h
  · exact rows2_spec r2F51 (by omega) (by omega) (by omega)
  clear h1; have h1 := h; clear h
  rcases Nat.lt_or_ge I 3951 with h | h
  · exact rows2_spec r2F52 (by omega) (by omega) (by omega)
  clear h1; have h1 := h; clear h
  rcases Nat.lt_or_ge I 4129 with h | h
  · exact rows2_spec r2F53 (by omega) (by omega) (by omega)
  clear h1; have h1 := h; clear h
  rcases Nat.lt_or_ge I 4319 with h | h
  · exact rows2_spec r2F54 (by omega) (by omega) (by omega)
  clear h1; have h1 := h; clear h
  rcases Nat.lt_or_ge I 4537 with h | h
  · exact rows2_spec r2F55 (by omega) (by omega) (by omega)
  clear h1; have h1 := h; clear h
  rcases Nat.lt_or_ge I 4791 with h | h
  · exact rows2_spec r2F56 (by omega) (by omega) (by omega)
  clear h1; have h1 := h; clear h
  rcases Nat.lt_or_ge I 5111 with h | h
  · exact rows2_spec r2F57 (by omega) (by omega) (by omega)
  clear h1; have h1 := h; clear h
  rcases Nat.lt_or_ge I 5555 with h | h
  · exact rows2_spec r2F58 (by omega) (by omega) (by omega)
  clear h1; have h1 := h; clear h
  exact rows2_spec r2F59 (by omega) (by omega) (by omega)
end Go.Proofs.YtpphfeinmmmckaaDoor
