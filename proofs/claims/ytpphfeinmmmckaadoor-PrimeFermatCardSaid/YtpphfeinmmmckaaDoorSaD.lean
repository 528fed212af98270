/-
  Plain: three primes, the least from 34429 to 65536, the second of the same characters: reckoned by the kernel (sagen.py prints this text).
-/
import Derived.Test.YtpphfeinmmmckaaDoorSa
namespace Go.Proofs.YtpphfeinmmmckaaDoor
open Nt
set_option maxRecDepth 100000
theorem saD0 : sB 2030347 34429 210 = true := by decide +kernel
theorem saD1 : sB 2018169 34849 245 = true := by decide +kernel
theorem saD2 : sB 2004235 35339 256 = true := by decide +kernel
theorem saD3 : sB 1989980 35851 228 = true := by decide +kernel
theorem saD4 : sB 1977538 36307 230 = true := by decide +kernel
theorem saD5 : sB 1965221 36767 225 = true := by decide +kernel
theorem saD6 : sB 1953391 37217 216 = true := by decide +kernel
theorem saD7 : sB 1942235 37649 276 = true := by decide +kernel
theorem saD8 : sB 1928254 38201 255 = true := by decide +kernel
theorem saD9 : sB 1915602 38711 235 = true := by decide +kernel
theorem saD10 : sB 1904160 39181 245 = true := by decide +kernel
theorem saD11 : sB 1892448 39671 240 = true := by decide +kernel
theorem saD12 : sB 1881183 40151 279 = true := by decide +kernel
theorem saD13 : sB 1868337 40709 240 = true := by decide +kernel
theorem saD14 : sB 1857496 41189 231 = true := by decide +kernel
theorem saD15 : sB 1847238 41651 250 = true := by decide +kernel
theorem saD16 : sB 1836325 42151 219 = true := by decide +kernel
theorem saD17 : sB 1826923 42589 239 = true := by decide +kernel
theorem saD18 : sB 1816827 43067 297 = true := by decide +kernel
theorem saD19 : sB 1804509 43661 264 = true := by decide +kernel
theorem saD20 : sB 1793770 44189 261 = true := by decide +kernel
theorem saD21 : sB 1783339 44711 285 = true := by decide +kernel
theorem saD22 : sB 1772154 45281 271 = true := by decide +kernel
theorem saD23 : sB 1761712 45823 288 = true := by decide +kernel
theorem saD24 : sB 1750816 46399 251 = true := by decide +kernel
theorem saD25 : sB 1741482 46901 300 = true := by decide +kernel
theorem saD26 : sB 1730520 47501 258 = true := by decide +kernel
theorem saD27 : sB 1721258 48017 286 = true := by decide +kernel
theorem saD28 : sB 1711162 48589 266 = true := by decide +kernel
theorem saD29 : sB 1701930 49121 271 = true := by decide +kernel
theorem saD30 : sB 1692677 49663 248 = true := by decide +kernel
theorem saD31 : sB 1684340 50159 315 = true := by decide +kernel
theorem saD32 : sB 1673928 50789 297 = true := by decide +kernel
theorem saD33 : sB 1664285 51383 247 = true := by decide +kernel
theorem saD34 : sB 1656392 51877 320 = true := by decide +kernel
theorem saD35 : sB 1646331 52517 285 = true := by decide +kernel
theorem saD36 : sB 1637523 53087 276 = true := by decide +kernel
theorem saD37 : sB 1629128 53639 319 = true := by decide +kernel
theorem saD38 : sB 1619583 54277 261 = true := by decide +kernel
theorem saD39 : sB 1611897 54799 321 = true := by decide +kernel
theorem saD40 : sB 1602594 55441 278 = true := by decide +kernel
theorem saD41 : sB 1594666 55997 297 = true := by decide +kernel
theorem saD42 : sB 1586326 56591 270 = true := by decide +kernel
theorem saD43 : sB 1578855 57131 298 = true := by decide +kernel
theorem saD44 : sB 1570732 57727 291 = true := by decide +kernel
theorem saD45 : sB 1562920 58309 327 = true := by decide +kernel
theorem saD46 : sB 1554278 58963 255 = true := by decide +kernel
theorem saD47 : sB 1547639 59473 330 = true := by decide +kernel
theorem saD48 : sB 1539171 60133 320 = true := by decide +kernel
theorem saD49 : sB 1531092 60773 355 = true := by decide +kernel
theorem saD50 : sB 1522277 61483 299 = true := by decide +kernel
theorem saD51 : sB 1514970 62081 336 = true := by decide +kernel
theorem saD52 : sB 1506883 62753 333 = true := by decide +kernel
theorem saD53 : sB 1498994 63419 294 = true := by decide +kernel
theorem saD54 : sB 1492132 64007 355 = true := by decide +kernel
theorem saD55 : sB 1483971 64717 332 = true := by decide +kernel
theorem saD56 : sB 1476458 65381 78 = true := by decide +kernel
theorem saD (p : Nat) (ho : p % 2 = 1) (h1 : 34429 ≤ p) (h2 : p < 65537) : ∃ rs W, (∀ e ∈ rs, e.1 ∈ ones ∧ e.2 = repD e.1.d (W / e.1.d + 2)) ∧ sP rs W p = true := by
  rcases Nat.lt_or_ge p 34849 with h | h
  · exact sB_spec saD0 (by omega) (by omega) (by omega)
  clear h1; have h1 := h; clear h
  rcases Nat.lt_or_ge p 35339 with h | h
  · exact sB_spec saD1 (by omega) (by omega) (by omega)
  clear h1; have h1 := h; clear h
  rcases Nat.lt_or_ge p 35851 with h | h
  · exact sB_spec saD2 (by omega) (by omega) (by omega)
  clear h1; have h1 := h; clear h
  rcases Nat.lt_or_ge p 36307 with h | h
  · exact sB_spec saD3 (by omega) (by omega) (by omega)
  clear h1; have h1 := h; clear h
  rcases Nat.lt_or_ge p 36767 with h | h
  · exact sB_spec saD4 (by omega) (by omega) (by omega)
  clear h1; have h1 := h; clear h
  rcases Nat.lt_or_ge p 37217 with h | h
  · exact sB_spec saD5 (by omega) (by omega) (by omega)
  clear h1; have h1 := h; clear h
  rcases Nat.lt_or_ge p 37649 with h | h
  · exact sB_spec saD6 (by omega) (by omega) (by omega)
  clear h1; have h1 := h; clear h
  rcases Nat.lt_or_ge p 38201 with h | h
  · exact sB_spec saD7 (by omega) (by omega) (by omega)
  clear h1; have h1 := h; clear h
  rcases Nat.lt_or_ge p 38711 with h | h
  · exact sB_spec saD8 (by omega) (by omega) (by omega)
  clear h1; have h1 := h; clear h
  rcases Nat.lt_or_ge p 39181 with h | h
  · exact sB_spec saD9 (by omega) (by omega) (by omega)
  clear h1; have h1 := h; clear h
  rcases Nat.lt_or_ge p 39671 with h | h
  · exact sB_spec saD10 (by omega) (by omega) (by omega)
  clear h1; have h1 := h; clear h
  rcases Nat.lt_or_ge p 40151 with h | h
  · exact sB_spec saD11 (by omega) (by omega) (by omega)
  clear h1; have h1 := h; clear h
  rcases Nat.lt_or_ge p 40709 with h | h
  · exact sB_spec saD12 (by omega) (by omega) (by omega)
  clear h1; have h1 := h; clear h
  rcases Nat.lt_or_ge p 41189 with h | h
  · exact sB_spec saD13 (by omega) (by omega) (by omega)
  clear h1; have h1 := h; clear h
  rcases Nat.lt_or_ge p 41651 with h | h
  · exact sB_spec saD14 (by omega) (by omega) (by omega)
  clear h1; have h1 := h; clear h
  rcases Nat.lt_or_ge p 42151 with h | h
  · exact sB_spec saD15 (by omega) (by omega) (by omega)
  clear h1; have h1 := h; clear h
  rcases Nat.lt_or_ge p 42589 with h | h
  · exact sB_spec saD16 (by omega) (by omega) (by omega)
  clear h1; have h1 := h; clear h
  rcases Nat.lt_or_ge p 43067 with h | h
  · exact sB_spec saD17 (by omega) (by omega) (by omega)
  clear h1; have h1 := h; clear h
  rcases Nat.lt_or_ge p 43661 with h | h
  · exact sB_spec saD18 (by omega) (by omega) (by omega)
  clear h1; have h1 := h; clear h
  rcases Nat.lt_or_ge p 44189 with h | h
  · exact sB_spec saD19 (by omega) (by omega) (by omega)
  clear h1; have h1 := h; clear h
  rcases Nat.lt_or_ge p 44711 with h | h
  · exact sB_spec saD20 (by omega) (by omega) (by omega)
  clear h1; have h1 := h; clear h
  rcases Nat.lt_or_ge p 45281 with h | h
  · exact sB_spec saD21 (by omega) (by omega) (by omega)
  clear h1; have h1 := h; clear h
  rcases Nat.lt_or_ge p 45823 with h | h
  · exact sB_spec saD22 (by omega) (by omega) (by omega)
  clear h1; have h1 := h; clear h
  rcases Nat.lt_or_ge p 46399 with h | h
  · exact sB_spec saD23 (by omega) (by omega) (by omega)
  clear h1; have h1 := h; clear h
  rcases Nat.lt_or_ge p 46901 with h | h
  · exact sB_spec saD24 (by omega) (by omega) (by omega)
  clear h1; have h1 := h; clear h
  rcases Nat.lt_or_ge p 47501 with h | h
  · exact sB_spec saD25 (by omega) (by omega) (by omega)
  clear h1; have h1 := h; clear h
  rcases Nat.lt_or_ge p 48017 with h | h
  · exact sB_spec saD26 (by omega) (by omega) (by omega)
  clear h1; have h1 := h; clear h
  rcases Nat.lt_or_ge p 48589 with h | h
  · exact sB_spec saD27 (by omega) (by omega) (by omega)
  clear h1; have h1 := h; clear h
  rcases Nat.lt_or_ge p 49121 with h | h
  · exact sB_spec saD28 (by omega) (by omega) (by omega)
  clear h1; have h1 := h; clear h
  rcases Nat.lt_or_ge p 49663 with h | h
  · exact sB_spec saD29 (by omega) (by omega) (by omega)
  clear h1; have h1 := h; clear h
  rcases Nat.lt_or_ge p 50159 with h | h
  · exact sB_spec saD30 (by omega) (by omega) (by omega)
  clear h1; have h1 := h; clear h
  rcases Nat.lt_or_ge p 50789 with h | h
  · exact sB_spec saD31 (by omega) (by omega) (by omega)
  clear h1; have h1 := h; clear h
  rcases Nat.lt_or_ge p 51383 with h | h
  · exact sB_spec saD32 (by omega) (by omega) (by omega)
  clear h1; have h1 := h; clear h
  rcases Nat.lt_or_ge p 51877 with h | h
  · exact sB_spec saD33 (by omega) (by omega) (by omega)
  clear h1; have h1 := h; clear h
  rcases Nat.lt_or_ge p 52517 with h | h
  · exact sB_spec saD34 (by omega) (by omega) (by omega)
  clear h1; have h1 := h; clear h
  rcases Nat.lt_or_ge p 53087 with h | h
  · exact sB_spec saD35 (by omega) (by omega) (by omega)
  clear h1; have h1 := h; clear h
  rcases Nat.lt_or_ge p 53639 with h | h
  · exact sB_spec saD36 (by omega) (by omega) (by omega)
  clear h1; have h1 := h; clear h
  rcases Nat.lt_or_ge p 54277 with h | h
  · exact sB_spec saD37 (by omega) (by omega) (by omega)
  clear h1; have h1 := h; clear h
  rcases Nat.lt_or_ge p 54799 with h | h
  · exact sB_spec saD38 (by omega) (by omega) (by omega)
  clear h1; have h1 := h; clear h
  rcases Nat.lt_or_ge p 55441 with h | h
  · exact sB_spec saD39 (by omega) (by omega) (by omega)
  clear h1; have h1 := h; clear h
  rcases Nat.lt_or_ge p 55997 with h | h
  · exact sB_spec saD40 (by omega) (by omega) (by omega)
  clear h1; have h1 := h; clear h
  rcases Nat.lt_or_ge p 56591 with h | h
  · exact sB_spec saD41 (by omega) (by omega) (by omega)
  clear h1; have h1 := h; clear h
  rcases Nat.lt_or_ge p 57131 with h | h
  · exact sB_spec saD42 (by omega) (by omega) (by omega)
  clear h1; have h1 := h; clear h
  rcases Nat.lt_or_ge p 57727 with h | h
  · exact sB_spec saD43 (by omega) (by omega) (by omega)
  clear h1; have h1 := h; clear h
  rcases Nat.lt_or_ge p 58309 with h | h
  · exact sB_spec saD44 (by omega) (by omega) (by omega)
  clear h1; have h1 := h; clear h
  rcases Nat.lt_or_ge p 58963 with h | h
  · exact sB_spec saD45 (by omega) (by omega) (by omega)
  clear h1; have h1 := h; clear h
  rcases Nat.lt_or_ge p 59473 with h | h
  · exact sB_spec saD46 (by omega) (by omega) (by omega)
  clear h1; have h1 := h; clear h
  rcases Nat.lt_or_ge p 60133 with h | h
  · exact sB_spec saD47 (by omega) (by omega) (by omega)
  clear h1; have h1 := h; clear h
  rcases Nat.lt_or_ge p 60773 with h | h
  · exact sB_spec saD48 (by omega) (by omega) (by omega)
  clear h1; have h1 := h; clear h
  rcases Nat.lt_or_ge p 61483 with h | h
  · exact sB_spec saD49 (by omega) (by omega) (by omega)
  clear h1; have h1 := h; clear h
  rcases Nat.lt_or_ge p 62081 with h | h
  · exact sB_spec saD50 (by omega) (by omega) (by omega)
  clear h1; have h1 := h; clear h
  rcases Nat.lt_or_ge p 62753 with h | h
  · exact sB_spec saD51 (by omega) (by omega) (by omega)
  clear h1; have h1 := h; clear h
  rcases Nat.lt_or_ge p 63419 with h | h
  · exact sB_spec saD52 (by omega) (by omega) (by omega)
  clear h1; have h1 := h; clear h
  rcases Nat.lt_or_ge p 64007 with h | h
  · exact sB_spec saD53 (by omega) (by omega) (by omega)
  clear h1; have h1 := h; clear h
  rcases Nat.lt_or_ge p 64717 with h | h
  · exact sB_spec saD54 (by omega) (by omega) (by omega)
  clear h1; have h1 := h; clear h
  rcases Nat.lt_or_ge p 65381 with h | h
  · exact sB_spec saD55 (by omega) (by omega) (by omega)
  clear h1; have h1 := h; clear h
  exact sB_spec saD56 (by omega) (by omega) (by omega)
end Go.Proofs.YtpphfeinmmmckaaDoor
