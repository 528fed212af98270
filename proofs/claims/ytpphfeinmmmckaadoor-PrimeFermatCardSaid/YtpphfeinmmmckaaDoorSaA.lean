/-
  Plain: three primes, the least from 41 to 3208, the second of the same characters: reckoned by the kernel (sagen.py prints this text).
-/
import Derived.Test.YtpphfeinmmmckaaDoorSa
namespace Go.Proofs.YtpphfeinmmmckaaDoor
open Nt
set_option maxRecDepth 100000
theorem saA0 : sB 6599010 41 3 = true := by decide +kernel
theorem saA1 : sB 6278747 47 6 = true := by decide +kernel
theorem saA2 : sB 6720579 59 4 = true := by decide +kernel
theorem saA3 : sB 6394266 67 3 = true := by decide +kernel
theorem saA4 : sB 6179561 73 5 = true := by decide +kernel
theorem saA5 : sB 5866825 83 7 = true := by decide +kernel
theorem saA6 : sB 6602068 97 5 = true := by decide +kernel
theorem saA7 : sB 6336453 107 10 = true := by decide +kernel
theorem saA8 : sB 5891791 127 6 = true := by decide +kernel
theorem saA9 : sB 5667401 139 9 = true := by decide +kernel
theorem saA10 : sB 6719456 157 8 = true := by decide +kernel
theorem saA11 : sB 6439766 173 9 = true := by decide +kernel
theorem saA12 : sB 6164467 191 10 = true := by decide +kernel
theorem saA13 : sB 5897516 211 11 = true := by decide +kernel
theorem saA14 : sB 5641476 233 12 = true := by decide +kernel
theorem saA15 : sB 5397844 257 10 = true := by decide +kernel
theorem saA16 : sB 6957101 277 15 = true := by decide +kernel
theorem saA17 : sB 6639195 307 12 = true := by decide +kernel
theorem saA18 : sB 6414706 331 14 = true := by decide +kernel
theorem saA19 : sB 6180129 359 15 = true := by decide +kernel
theorem saA20 : sB 5955876 389 16 = true := by decide +kernel
theorem saA21 : sB 5742190 421 14 = true := by decide +kernel
theorem saA22 : sB 5573305 449 15 = true := by decide +kernel
theorem saA23 : sB 5408233 479 21 = true := by decide +kernel
theorem saA24 : sB 5200406 521 24 = true := by decide +kernel
theorem saA25 : sB 4990394 569 16 = true := by decide +kernel
theorem saA26 : sB 4863979 601 20 = true := by decide +kernel
theorem saA27 : sB 4718914 641 16 = true := by decide +kernel
theorem saA28 : sB 6917873 673 27 = true := by decide +kernel
theorem saA29 : sB 6670522 727 21 = true := by decide +kernel
theorem saA30 : sB 6495746 769 27 = true := by decide +kernel
theorem saA31 : sB 6290283 823 20 = true := by decide +kernel
theorem saA32 : sB 6150246 863 28 = true := by decide +kernel
theorem saA33 : sB 5969244 919 29 = true := by decide +kernel
theorem saA34 : sB 5797888 977 27 = true := by decide +kernel
theorem saA35 : sB 5651108 1031 28 = true := by decide +kernel
theorem saA36 : sB 5510235 1087 21 = true := by decide +kernel
theorem saA37 : sB 5411320 1129 36 = true := by decide +kernel
theorem saA38 : sB 5253626 1201 38 = true := by decide +kernel
theorem saA39 : sB 5101444 1277 21 = true := by decide +kernel
theorem saA40 : sB 5022886 1319 52 = true := by decide +kernel
theorem saA41 : sB 4843150 1423 24 = true := by decide +kernel
theorem saA42 : sB 4766529 1471 36 = true := by decide +kernel
theorem saA43 : sB 4658199 1543 32 = true := by decide +kernel
theorem saA44 : sB 4567927 1607 31 = true := by decide +kernel
theorem saA45 : sB 4485353 1669 42 = true := by decide +kernel
theorem saA46 : sB 4380376 1753 47 = true := by decide +kernel
theorem saA47 : sB 4271300 1847 42 = true := by decide +kernel
theorem saA48 : sB 4180491 1931 40 = true := by decide +kernel
theorem saA49 : sB 4099231 2011 39 = true := by decide +kernel
theorem saA50 : sB 4024442 2089 45 = true := by decide +kernel
theorem saA51 : sB 3943080 2179 51 = true := by decide +kernel
theorem saA52 : sB 3856633 2281 45 = true := by decide +kernel
theorem saA53 : sB 3784941 2371 38 = true := by decide +kernel
theorem saA54 : sB 3727444 2447 55 = true := by decide +kernel
theorem saA55 : sB 3648721 2557 60 = true := by decide +kernel
theorem saA56 : sB 3568330 2677 36 = true := by decide +kernel
theorem saA57 : sB 3522595 2749 51 = true := by decide +kernel
theorem saA58 : sB 6921474 2851 56 = true := by decide +kernel
theorem saA59 : sB 6792925 2963 58 = true := by decide +kernel
theorem saA60 : sB 6667116 3079 65 = true := by decide +kernel
theorem saA (p : Nat) (ho : p % 2 = 1) (h1 : 41 ≤ p) (h2 : p < 3209) : ∃ rs W, (∀ e ∈ rs, e.1 ∈ ones ∧ e.2 = repD e.1.d (W / e.1.d + 2)) ∧ sP rs W p = true := by
  rcases Nat.lt_or_ge p 47 with h | h
  · exact sB_spec saA0 (by omega) (by omega) (by omega)
  clear h1; have h1 := h; clear h
  rcases Nat.lt_or_ge p 59 with h | h
  · exact sB_spec saA1 (by omega) (by omega) (by omega)
  clear h1; have h1 := h; clear h
  rcases Nat.lt_or_ge p 67 with h | h
  · exact sB_spec saA2 (by omega) (by omega) (by omega)
  clear h1; have h1 := h; clear h
  rcases Nat.lt_or_ge p 73 with h | h
  · exact sB_spec saA3 (by omega) (by omega) (by omega)
  clear h1; have h1 := h; clear h
  rcases Nat.lt_or_ge p 83 with h | h
  · exact sB_spec saA4 (by omega) (by omega) (by omega)
  clear h1; have h1 := h; clear h
  rcases Nat.lt_or_ge p 97 with h | h
  · exact sB_spec saA5 (by omega) (by omega) (by omega)
  clear h1; have h1 := h; clear h
  rcases Nat.lt_or_ge p 107 with h | h
  · exact sB_spec saA6 (by omega) (by omega) (by omega)
  clear h1; have h1 := h; clear h
  rcases Nat.lt_or_ge p 127 with h | h
  · exact sB_spec saA7 (by omega) (by omega) (by omega)
  clear h1; have h1 := h; clear h
  rcases Nat.lt_or_ge p 139 with h | h
  · exact sB_spec saA8 (by omega) (by omega) (by omega)
  clear h1; have h1 := h; clear h
  rcases Nat.lt_or_ge p 157 with h | h
  · exact sB_spec saA9 (by omega) (by omega) (by omega)
  clear h1; have h1 := h; clear h
  rcases Nat.lt_or_ge p 173 with h | h
  · exact sB_spec saA10 (by omega) (by omega) (by omega)
  clear h1; have h1 := h; clear h
  rcases Nat.lt_or_ge p 191 with h | h
  · exact sB_spec saA11 (by omega) (by omega) (by omega)
  clear h1; have h1 := h; clear h
  rcases Nat.lt_or_ge p 211 with h | h
  · exact sB_spec saA12 (by omega) (by omega) (by omega)
  clear h1; have h1 := h; clear h
  rcases Nat.lt_or_ge p 233 with h | h
  · exact sB_spec saA13 (by omega) (by omega) (by omega)
  clear h1; have h1 := h; clear h
  rcases Nat.lt_or_ge p 257 with h | h
  · exact sB_spec saA14 (by omega) (by omega) (by omega)
  clear h1; have h1 := h; clear h
  rcases Nat.lt_or_ge p 277 with h | h
  · exact sB_spec saA15 (by omega) (by omega) (by omega)
  clear h1; have h1 := h; clear h
  rcases Nat.lt_or_ge p 307 with h | h
  · exact sB_spec saA16 (by omega) (by omega) (by omega)
  clear h1; have h1 := h; clear h
  rcases Nat.lt_or_ge p 331 with h | h
  · exact sB_spec saA17 (by omega) (by omega) (by omega)
  clear h1; have h1 := h; clear h
  rcases Nat.lt_or_ge p 359 with h | h
  · exact sB_spec saA18 (by omega) (by omega) (by omega)
  clear h1; have h1 := h; clear h
  rcases Nat.lt_or_ge p 389 with h | h
  · exact sB_spec saA19 (by omega) (by omega) (by omega)
  clear h1; have h1 := h; clear h
  rcases Nat.lt_or_ge p 421 with h | h
  · exact sB_spec saA20 (by omega) (by omega) (by omega)
  clear h1; have h1 := h; clear h
  rcases Nat.lt_or_ge p 449 with h | h
  · exact sB_spec saA21 (by omega) (by omega) (by omega)
  clear h1; have h1 := h; clear h
  rcases Nat.lt_or_ge p 479 with h | h
  · exact sB_spec saA22 (by omega) (by omega) (by omega)
  clear h1; have h1 := h; clear h
  rcases Nat.lt_or_ge p 521 with h | h
  · exact sB_spec saA23 (by omega) (by omega) (by omega)
  clear h1; have h1 := h; clear h
  rcases Nat.lt_or_ge p 569 with h | h
  · exact sB_spec saA24 (by omega) (by omega) (by omega)
  clear h1; have h1 := h; clear h
  rcases Nat.lt_or_ge p 601 with h | h
  · exact sB_spec saA25 (by omega) (by omega) (by omega)
  clear h1; have h1 := h; clear h
  rcases Nat.lt_or_ge p 641 with h | h
  · exact sB_spec saA26 (by omega) (by omega) (by omega)
  clear h1; have h1 := h; clear h
  rcases Nat.lt_or_ge p 673 with h | h
  · exact sB_spec saA27 (by omega) (by omega) (by omega)
  clear h1; have h1 := h; clear h
  rcases Nat.lt_or_ge p 727 with h | h
  · exact sB_spec saA28 (by omega) (by omega) (by omega)
  clear h1; have h1 := h; clear h
  rcases Nat.lt_or_ge p 769 with h | h
  · exact sB_spec saA29 (by omega) (by omega) (by omega)
  clear h1; have h1 := h; clear h
  rcases Nat.lt_or_ge p 823 with h | h
  · exact sB_spec saA30 (by omega) (by omega) (by omega)
  clear h1; have h1 := h; clear h
  rcases Nat.lt_or_ge p 863 with h | h
  · exact sB_spec saA31 (by omega) (by omega) (by omega)
  clear h1; have h1 := h; clear h
  rcases Nat.lt_or_ge p 919 with h | h
  · exact sB_spec saA32 (by omega) (by omega) (by omega)
  clear h1; have h1 := h; clear h
  rcases Nat.lt_or_ge p 977 with h | h
  · exact sB_spec saA33 (by omega) (by omega) (by omega)
  clear h1; have h1 := h; clear h
  rcases Nat.lt_or_ge p 1031 with h | h
  · exact sB_spec saA34 (by omega) (by omega) (by omega)
  clear h1; have h1 := h; clear h
  rcases Nat.lt_or_ge p 1087 with h | h
  · exact sB_spec saA35 (by omega) (by omega) (by omega)
  clear h1; have h1 := h; clear h
  rcases Nat.lt_or_ge p 1129 with h | h
  · exact sB_spec saA36 (by omega) (by omega) (by omega)
  clear h1; have h1 := h; clear h
  rcases Nat.lt_or_ge p 1201 with h | h
  · exact sB_spec saA37 (by omega) (by omega) (by omega)
  clear h1; have h1 := h; clear h
  rcases Nat.lt_or_ge p 1277 with h | h
  · exact sB_spec saA38 (by omega) (by omega) (by omega)
  clear h1; have h1 := h; clear h
  rcases Nat.lt_or_ge p 1319 with h | h
  · exact sB_spec saA39 (by omega) (by omega) (by omega)
  clear h1; have h1 := h; clear h
  rcases Nat.lt_or_ge p 1423 with h | h
  · exact sB_spec saA40 (by omega) (by omega) (by omega)
  clear h1; have h1 := h; clear h
  rcases Nat.lt_or_ge p 1471 with h | h
  · exact sB_spec saA41 (by omega) (by omega) (by omega)
  clear h1; have h1 := h; clear h
  rcases Nat.lt_or_ge p 1543 with h | h
  · exact sB_spec saA42 (by omega) (by omega) (by omega)
  clear h1; have h1 := h; clear h
  rcases Nat.lt_or_ge p 1607 with h | h
  · exact sB_spec saA43 (by omega) (by omega) (by omega)
  clear h1; have h1 := h; clear h
  rcases Nat.lt_or_ge p 1669 with h | h
  · exact sB_spec saA44 (by omega) (by omega) (by omega)
  clear h1; have h1 := h; clear h
  rcases Nat.lt_or_ge p 1753 with h | h
  · exact sB_spec saA45 (by omega) (by omega) (by omega)
  clear h1; have h1 := h; clear h
  rcases Nat.lt_or_ge p 1847 with h | h
  · exact sB_spec saA46 (by omega) (by omega) (by omega)
  clear h1; have h1 := h; clear h
  rcases Nat.lt_or_ge p 1931 with h | h
  · exact sB_spec saA47 (by omega) (by omega) (by omega)
  clear h1; have h1 := h; clear h
  rcases Nat.lt_or_ge p 2011 with h | h
  · exact sB_spec saA48 (by omega) (by omega) (by omega)
  clear h1; have h1 := h; clear h
  rcases Nat.lt_or_ge p 2089 with h | h
  · exact sB_spec saA49 (by omega) (by omega) (by omega)
  clear h1; have h1 := h; clear h
  rcases Nat.lt_or_ge p 2179 with h | h
  · exact sB_spec saA50 (by omega) (by omega) (by omega)
  clear h1; have h1 := h; clear h
  rcases Nat.lt_or_ge p 2281 with h | h
  · exact sB_spec saA51 (by omega) (by omega) (by omega)
  clear h1; have h1 := h; clear h
  rcases Nat.lt_or_ge p 2371 with h | h
  · exact sB_spec saA52 (by omega) (by omega) (by omega)
  clear h1; have h1 := h; clear h
  rcases Nat.lt_or_ge p 2447 with h | h
  · exact sB_spec saA53 (by omega) (by omega) (by omega)
  clear h1; have h1 := h; clear h
  rcases Nat.lt_or_ge p 2557 with h | h
  · exact sB_spec saA54 (by omega) (by omega) (by omega)
  clear h1; have h1 := h; clear h
  rcases Nat.lt_or_ge p 2677 with h | h
  · exact sB_spec saA55 (by omega) (by omega) (by omega)
  clear h1; have h1 := h; clear h
  rcases Nat.lt_or_ge p 2749 with h | h
  · exact sB_spec saA56 (by omega) (by omega) (by omega)
  clear h1; have h1 := h; clear h
  rcases Nat.lt_or_ge p 2851 with h | h
  · exact sB_spec saA57 (by omega) (by omega) (by omega)
  clear h1; have h1 := h; clear h
  rcases Nat.lt_or_ge p 2963 with h | h
  · exact sB_spec saA58 (by omega) (by omega) (by omega)
  clear h1; have h1 := h; clear h
  rcases Nat.lt_or_ge p 3079 with h | h
  · exact sB_spec saA59 (by omega) (by omega) (by omega)
  clear h1; have h1 := h; clear h
  exact sB_spec saA60 (by omega) (by omega) (by omega)
end Go.Proofs.YtpphfeinmmmckaaDoor
