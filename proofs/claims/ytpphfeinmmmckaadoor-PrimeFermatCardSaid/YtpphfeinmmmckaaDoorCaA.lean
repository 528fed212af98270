/-
  Plain: three primes, the greatest above 2^32, the least from 41 to 46348: reckoned by the kernel (cagen.py prints this text).
-/
import Derived.Test.YtpphfeinmmmckaaDoorCa
namespace Go.Proofs.YtpphfeinmmmckaaDoor
open Nt
set_option maxRecDepth 100000
theorem caA0 : caB 6523930 41 1 = true := by decide +kernel
theorem caA1 : caB 6220491 43 2 = true := by decide +kernel
theorem caA2 : caB 5691088 47 3 = true := by decide +kernel
theorem caA3 : caB 5046814 53 3 = true := by decide +kernel
theorem caA4 : caB 4533579 59 1 = true := by decide +kernel
theorem caA5 : caB 4384937 61 3 = true := by decide +kernel
theorem caA6 : caB 3992257 67 2 = true := by decide +kernel
theorem caA7 : caB 3767341 71 1 = true := by decide +kernel
theorem caA8 : caB 3664127 73 3 = true := by decide +kernel
theorem caA9 : caB 3385839 79 2 = true := by decide +kernel
theorem caA10 : caB 3222666 83 3 = true := by decide +kernel
theorem caA11 : caB 3005407 89 4 = true := by decide +kernel
theorem caA12 : caB 2757539 97 2 = true := by decide +kernel
theorem caA13 : caB 2648329 101 4 = true := by decide +kernel
theorem caA14 : caB 2453957 109 11 = true := by decide +kernel
theorem caA15 : caB 2041842 131 9 = true := by decide +kernel
theorem caA16 : caB 1795178 149 7 = true := by decide +kernel
theorem caA17 : caB 1640991 163 8 = true := by decide +kernel
theorem caA18 : caB 1494310 179 7 = true := by decide +kernel
theorem caA19 : caB 1385915 193 9 = true := by decide +kernel
theorem caA20 : caB 1267685 211 20 = true := by decide +kernel
theorem caA21 : caB 1065664 251 16 = true := by decide +kernel
theorem caA22 : caB 945166 283 27 = true := by decide +kernel
theorem caA23 : caB 793715 337 21 = true := by decide +kernel
theorem caA24 : caB 705757 379 30 = true := by decide +kernel
theorem caA25 : caB 609299 439 42 = true := by decide +kernel
theorem caA26 : caB 511439 523 47 = true := by decide +kernel
theorem caA27 : caB 433522 617 46 = true := by decide +kernel
theorem caA28 : caB 377268 709 59 = true := by decide +kernel
theorem caA29 : caB 323438 827 117 = true := by decide +kernel
theorem caA30 : caB 252106 1061 120 = true := by decide +kernel
theorem caA31 : caB 205600 1301 129 = true := by decide +kernel
theorem caA32 : caB 171575 1559 126 = true := by decide +kernel
theorem caA33 : caB 147700 1811 196 = true := by decide +kernel
theorem caA34 : caB 121419 2203 300 = true := by decide +kernel
theorem caA35 : caB 95420 2803 348 = true := by decide +kernel
theorem caA36 : caB 76283 3499 317 = true := by decide +kernel
theorem caA37 : caB 64436 4133 342 = true := by decide +kernel
theorem caA38 : caB 55127 4817 778 = true := by decide +kernel
theorem caA39 : caB 41327 6373 998 = true := by decide +kernel
theorem caA40 : caB 31031 8369 972 = true := by decide +kernel
theorem caA41 : caB 24742 10313 1048 = true := by decide +kernel
theorem caA42 : caB 20084 12409 1035 = true := by decide +kernel
theorem caA43 : caB 16733 14479 1020 = true := by decide +kernel
theorem caA44 : caB 14189 16519 1049 = true := by decide +kernel
theorem caA45 : caB 12094 18617 1115 = true := by decide +kernel
theorem caA46 : caB 10274 20847 1057 = true := by decide +kernel
theorem caA47 : caB 8823 22961 1101 = true := by decide +kernel
theorem caA48 : caB 7525 25163 1102 = true := by decide +kernel
theorem caA49 : caB 6391 27367 1101 = true := by decide +kernel
theorem caA50 : caB 5385 29569 1152 = true := by decide +kernel
theorem caA51 : caB 4441 31873 1079 = true := by decide +kernel
theorem caA52 : caB 3637 34031 1144 = true := by decide +kernel
theorem caA53 : caB 2855 36319 1160 = true := by decide +kernel
theorem caA54 : caB 2121 38639 1144 = true := by decide +kernel
theorem caA55 : caB 1446 40927 1068 = true := by decide +kernel
theorem caA56 : caB 854 43063 1214 = true := by decide +kernel
theorem caA57 : caB 217 45491 429 = true := by decide +kernel
theorem caA (p : Nat) (ho : p % 2 = 1) (h1 : 41 ≤ p) (h2 : p < 46349) : ∃ rs W, (∀ e ∈ rs, e.1 ∈ ones ∧ e.2 = repD e.1.d (W / e.1.d + 2)) ∧ caP rs W p = true := by
  rcases Nat.lt_or_ge p 43 with h | h
  · exact caB_spec caA0 (by omega) (by omega) (by omega)
  clear h1; have h1 := h; clear h
  rcases Nat.lt_or_ge p 47 with h | h
  · exact caB_spec caA1 (by omega) (by omega) (by omega)
  clear h1; have h1 := h; clear h
  rcases Nat.lt_or_ge p 53 with h | h
  · exact caB_spec caA2 (by omega) (by omega) (by omega)
  clear h1; have h1 := h; clear h
  rcases Nat.lt_or_ge p 59 with h | h
  · exact caB_spec caA3 (by omega) (by omega) (by omega)
  clear h1; have h1 := h; clear h
  rcases Nat.lt_or_ge p 61 with h | h
  · exact caB_spec caA4 (by omega) (by omega) (by omega)
  clear h1; have h1 := h; clear h
  rcases Nat.lt_or_ge p 67 with h | h
  · exact caB_spec caA5 (by omega) (by omega) (by omega)
  clear h1; have h1 := h; clear h
  rcases Nat.lt_or_ge p 71 with h | h
  · exact caB_spec caA6 (by omega) (by omega) (by omega)
  clear h1; have h1 := h; clear h
  rcases Nat.lt_or_ge p 73 with h | h
  · exact caB_spec caA7 (by omega) (by omega) (by omega)
  clear h1; have h1 := h; clear h
  rcases Nat.lt_or_ge p 79 with h | h
  · exact caB_spec caA8 (by omega) (by omega) (by omega)
  clear h1; have h1 := h; clear h
  rcases Nat.lt_or_ge p 83 with h | h
  · exact caB_spec caA9 (by omega) (by omega) (by omega)
  clear h1; have h1 := h; clear h
  rcases Nat.lt_or_ge p 89 with h | h
  · exact caB_spec caA10 (by omega) (by omega) (by omega)
  clear h1; have h1 := h; clear h
  rcases Nat.lt_or_ge p 97 with h | h
  · exact caB_spec caA11 (by omega) (by omega) (by omega)
  clear h1; have h1 := h; clear h
  rcases Nat.lt_or_ge p 101 with h | h
  · exact caB_spec caA12 (by omega) (by omega) (by omega)
  clear h1; have h1 := h; clear h
  rcases Nat.lt_or_ge p 109 with h | h
  · exact caB_spec caA13 (by omega) (by omega) (by omega)
  clear h1; have h1 := h; clear h
  rcases Nat.lt_or_ge p 131 with h | h
  · exact caB_spec caA14 (by omega) (by omega) (by omega)
  clear h1; have h1 := h; clear h
  rcases Nat.lt_or_ge p 149 with h | h
  · exact caB_spec caA15 (by omega) (by omega) (by omega)
  clear h1; have h1 := h; clear h
  rcases Nat.lt_or_ge p 163 with h | h
  · exact caB_spec caA16 (by omega) (by omega) (by omega)
  clear h1; have h1 := h; clear h
  rcases Nat.lt_or_ge p 179 with h | h
  · exact caB_spec caA17 (by omega) (by omega) (by omega)
  clear h1; have h1 := h; clear h
  rcases Nat.lt_or_ge p 193 with h | h
  · exact caB_spec caA18 (by omega) (by omega) (by omega)
  clear h1; have h1 := h; clear h
  rcases Nat.lt_or_ge p 211 with h | h
  · exact caB_spec caA19 (by omega) (by omega) (by omega)
  clear h1; have h1 := h; clear h
  rcases Nat.lt_or_ge p 251 with h | h
  · exact caB_spec caA20 (by omega) (by omega) (by omega)
  clear h1; have h1 := h; clear h
  rcases Nat.lt_or_ge p 283 with h | h
  · exact caB_spec caA21 (by omega) (by omega) (by omega)
  clear h1; have h1 := h; clear h
  rcases Nat.lt_or_ge p 337 with h | h
  · exact caB_spec caA22 (by omega) (by omega) (by omega)
  clear h1; have h1 := h; clear h
  rcases Nat.lt_or_ge p 379 with h | h
  · exact caB_spec caA23 (by omega) (by omega) (by omega)
  clear h1; have h1 := h; clear h
  rcases Nat.lt_or_ge p 439 with h | h
  · exact caB_spec caA24 (by omega) (by omega) (by omega)
  clear h1; have h1 := h; clear h
  rcases Nat.lt_or_ge p 523 with h | h
  · exact caB_spec caA25 (by omega) (by omega) (by omega)
  clear h1; have h1 := h; clear h
  rcases Nat.lt_or_ge p 617 with h | h
  · exact caB_spec caA26 (by omega) (by omega) (by omega)
  clear h1; have h1 := h; clear h
  rcases Nat.lt_or_ge p 709 with h | h
  · exact caB_spec caA27 (by omega) (by omega) (by omega)
  clear h1; have h1 := h; clear h
  rcases Nat.lt_or_ge p 827 with h | h
  · exact caB_spec caA28 (by omega) (by omega) (by omega)
  clear h1; have h1 := h; clear h
  rcases Nat.lt_or_ge p 1061 with h | h
  · exact caB_spec caA29 (by omega) (by omega) (by omega)
  clear h1; have h1 := h; clear h
  rcases Nat.lt_or_ge p 1301 with h | h
  · exact caB_spec caA30 (by omega) (by omega) (by omega)
  clear h1; have h1 := h; clear h
  rcases Nat.lt_or_ge p 1559 with h | h
  · exact caB_spec caA31 (by omega) (by omega) (by omega)
  clear h1; have h1 := h; clear h
  rcases Nat.lt_or_ge p 1811 with h | h
  · exact caB_spec caA32 (by omega) (by omega) (by omega)
  clear h1; have h1 := h; clear h
  rcases Nat.lt_or_ge p 2203 with h | h
  · exact caB_spec caA33 (by omega) (by omega) (by omega)
  clear h1; have h1 := h; clear h
  rcases Nat.lt_or_ge p 2803 with h | h
  · exact caB_spec caA34 (by omega) (by omega) (by omega)
  clear h1; have h1 := h; clear h
  rcases Nat.lt_or_ge p 3499 with h | h
  · exact caB_spec caA35 (by omega) (by omega) (by omega)
  clear h1; have h1 := h; clear h
  rcases Nat.lt_or_ge p 4133 with h | h
  · exact caB_spec caA36 (by omega) (by omega) (by omega)
  clear h1; have h1 := h; clear h
  rcases Nat.lt_or_ge p 4817 with h | h
  · exact caB_spec caA37 (by omega) (by omega) (by omega)
  clear h1; have h1 := h; clear h
  rcases Nat.lt_or_ge p 6373 with h | h
  · exact caB_spec caA38 (by omega) (by omega) (by omega)
  clear h1; have h1 := h; clear h
  rcases Nat.lt_or_ge p 8369 with h | h
  · exact caB_spec caA39 (by omega) (by omega) (by omega)
  clear h1; have h1 := h; clear h
  rcases Nat.lt_or_ge p 10313 with h | h
  · exact caB_spec caA40 (by omega) (by omega) (by omega)
  clear h1; have h1 := h; clear h
  rcases Nat.lt_or_ge p 12409 with h | h
  · exact caB_spec caA41 (by omega) (by omega) (by omega)
  clear h1; have h1 := h; clear h
  rcases Nat.lt_or_ge p 14479 with h | h
  · exact caB_spec caA42 (by omega) (by omega) (by omega)
  clear h1; have h1 := h; clear h
  rcases Nat.lt_or_ge p 16519 with h | h
  · exact caB_spec caA43 (by omega) (by omega) (by omega)
  clear h1; have h1 := h; clear h
  rcases Nat.lt_or_ge p 18617 with h | h
  · exact caB_spec caA44 (by omega) (by omega) (by omega)
  clear h1; have h1 := h; clear h
  rcases Nat.lt_or_ge p 20847 with h | h
  · exact caB_spec caA45 (by omega) (by omega) (by omega)
  clear h1; have h1 := h; clear h
  rcases Nat.lt_or_ge p 22961 with h | h
  · exact caB_spec caA46 (by omega) (by omega) (by omega)
  clear h1; have h1 := h; clear h
  rcases Nat.lt_or_ge p 25163 with h | h
  · exact caB_spec caA47 (by omega) (by omega) (by omega)
  clear h1; have h1 := h; clear h
  rcases Nat.lt_or_ge p 27367 with h | h
  · exact caB_spec caA48 (by omega) (by omega) (by omega)
  clear h1; have h1 := h; clear h
  rcases Nat.lt_or_ge p 29569 with h | h
  · exact caB_spec caA49 (by omega) (by omega) (by omega)
  clear h1; have h1 := h; clear h
  rcases Nat.lt_or_ge p 31873 with h | h
  · exact caB_spec caA50 (by omega) (by omega) (by omega)
  clear h1; have h1 := h; clear h
  rcases Nat.lt_or_ge p 34031 with h | h
  · exact caB_spec caA51 (by omega) (by omega) (by omega)
  clear h1; have h1 := h; clear h
  rcases Nat.lt_or_ge p 36319 with h | h
  · exact caB_spec caA52 (by omega) (by omega) (by omega)
  clear h1; have h1 := h; clear h
  rcases Nat.lt_or_ge p 38639 with h | h
  · exact caB_spec caA53 (by omega) (by omega) (by omega)
  clear h1; have h1 := h; clear h
  rcases Nat.lt_or_ge p 40927 with h | h
  · exact caB_spec caA54 (by omega) (by omega) (by omega)
  clear h1; have h1 := h; clear h
  rcases Nat.lt_or_ge p 43063 with h | h
  · exact caB_spec caA55 (by omega) (by omega) (by omega)
  clear h1; have h1 := h; clear h
  rcases Nat.lt_or_ge p 45491 with h | h
  · exact caB_spec caA56 (by omega) (by omega) (by omega)
  clear h1; have h1 := h; clear h
  exact caB_spec caA57 (by omega) (by omega) (by omega)
end Go.Proofs.YtpphfeinmmmckaaDoor
