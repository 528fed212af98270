/-
  Plain: the check of numbers of three primes or more, the least from 1201 to 65536: reckoned by the kernel (trigen.py prints this text).
-/
import Derived.Test.YtpphfeinmmmckaaDoorMTri
namespace Go.Proofs.YtpphfeinmmmckaaDoor
open Nt
set_option maxRecDepth 100000
theorem trB0 : triB 4294967296 4294967296 1201 91 = true := by decide +kernel
theorem trB1 : triB 4294967296 4294967296 1383 93 = true := by decide +kernel
theorem trB2 : triB 4294967296 4294967296 1569 95 = true := by decide +kernel
theorem trB3 : triB 4294967296 4294967296 1759 96 = true := by decide +kernel
theorem trB4 : triB 4294967296 4294967296 1951 119 = true := by decide +kernel
theorem trB5 : triB 4294967296 4294967296 2189 128 = true := by decide +kernel
theorem trB6 : triB 4294967296 4294967296 2445 130 = true := by decide +kernel
theorem trB7 : triB 4294967296 4294967296 2705 132 = true := by decide +kernel
theorem trB8 : triB 4294967296 4294967296 2969 133 = true := by decide +kernel
theorem trB9 : triB 4294967296 4294967296 3235 134 = true := by decide +kernel
theorem trB10 : triB 4294967296 4294967296 3503 136 = true := by decide +kernel
theorem trB11 : triB 4294967296 4294967296 3775 137 = true := by decide +kernel
theorem trB12 : triB 4294967296 4294967296 4049 138 = true := by decide +kernel
theorem trB13 : triB 4294967296 4294967296 4325 139 = true := by decide +kernel
theorem trB14 : triB 4294967296 4294967296 4603 140 = true := by decide +kernel
theorem trB15 : triB 4294967296 4294967296 4883 281 = true := by decide +kernel
theorem trB16 : triB 4294967296 4294967296 5445 386 = true := by decide +kernel
theorem trB17 : triB 4294967296 4294967296 6217 392 = true := by decide +kernel
theorem trB18 : triB 4294967296 4294967296 7001 397 = true := by decide +kernel
theorem trB19 : triB 4294967296 4294967296 7795 401 = true := by decide +kernel
theorem trB20 : triB 4294967296 4294967296 8597 406 = true := by decide +kernel
theorem trB21 : triB 4294967296 4294967296 9409 577 = true := by decide +kernel
theorem trB22 : triB 4294967296 4294967296 10563 1028 = true := by decide +kernel
theorem trB23 : triB 4294967296 4294967296 12619 1046 = true := by decide +kernel
theorem trB24 : triB 4294967296 4294967296 14711 1061 = true := by decide +kernel
theorem trB25 : triB 4294967296 4294967296 16833 1075 = true := by decide +kernel
theorem trB26 : triB 4294967296 4294967296 18983 1422 = true := by decide +kernel
theorem trB27 : triB 4294967296 4294967296 21827 1741 = true := by decide +kernel
theorem trB28 : triB 4294967296 4294967296 25309 1764 = true := by decide +kernel
theorem trB29 : triB 4294967296 4294967296 28837 1785 = true := by decide +kernel
theorem trB30 : triB 4294967296 4294967296 32407 1803 = true := by decide +kernel
theorem trB31 : triB 4294967296 4294967296 36013 1820 = true := by decide +kernel
theorem trB32 : triB 4294967296 4294967296 39653 1835 = true := by decide +kernel
theorem trB33 : triB 4294967296 4294967296 43323 1849 = true := by decide +kernel
theorem trB34 : triB 4294967296 4294967296 47021 1862 = true := by decide +kernel
theorem trB35 : triB 4294967296 4294967296 50745 1875 = true := by decide +kernel
theorem trB36 : triB 4294967296 4294967296 54495 1886 = true := by decide +kernel
theorem trB37 : triB 4294967296 4294967296 58267 1897 = true := by decide +kernel
theorem trB38 : triB 4294967296 4294967296 62061 1738 = true := by decide +kernel
theorem trB (p : Nat) (ho : p % 2 = 1) (h1 : 1201 ≤ p) (h2 : p < 65537) : ∃ rs W, (∀ e ∈ rs, e.1 ∈ ones ∧ e.2 = repD e.1.d (W / e.1.d + 2)) ∧ tri rs W 4294967296 (4294967296 / p) p = true := by
  rcases Nat.lt_or_ge p 1383 with h | h
  · exact triB_spec trB0 (by omega) (by omega) (by omega)
  clear h1; have h1 := h; clear h
  rcases Nat.lt_or_ge p 1569 with h | h
  · exact triB_spec trB1 (by omega) (by omega) (by omega)
  clear h1; have h1 := h; clear h
  rcases Nat.lt_or_ge p 1759 with h | h
  · exact triB_spec trB2 (by omega) (by omega) (by omega)
  clear h1; have h1 := h; clear h
  rcases Nat.lt_or_ge p 1951 with h | h
  · exact triB_spec trB3 (by omega) (by omega) (by omega)
  clear h1; have h1 := h; clear h
  rcases Nat.lt_or_ge p 2189 with h | h
  · exact triB_spec trB4 (by omega) (by omega) (by omega)
  clear h1; have h1 := h; clear h
  rcases Nat.lt_or_ge p 2445 with h | h
  · exact triB_spec trB5 (by omega) (by omega) (by omega)
  clear h1; have h1 := h; clear h
  rcases Nat.lt_or_ge p 2705 with h | h
  · exact triB_spec trB6 (by omega) (by omega) (by omega)
  clear h1; have h1 := h; clear h
  rcases Nat.lt_or_ge p 2969 with h | h
  · exact triB_spec trB7 (by omega) (by omega) (by omega)
  clear h1; have h1 := h; clear h
  rcases Nat.lt_or_ge p 3235 with h | h
  · exact triB_spec trB8 (by omega) (by omega) (by omega)
  clear h1; have h1 := h; clear h
  rcases Nat.lt_or_ge p 3503 with h | h
  · exact triB_spec trB9 (by omega) (by omega) (by omega)
  clear h1; have h1 := h; clear h
  rcases Nat.lt_or_ge p 3775 with h | h
  · exact triB_spec trB10 (by omega) (by omega) (by omega)
  clear h1; have h1 := h; clear h
  rcases Nat.lt_or_ge p 4049 with h | h
  · exact triB_spec trB11 (by omega) (by omega) (by omega)
  clear h1; have h1 := h; clear h
  rcases Nat.lt_or_ge p 4325 with h | h
  · exact triB_spec trB12 (by omega) (by omega) (by omega)
  clear h1; have h1 := h; clear h
  rcases Nat.lt_or_ge p 4603 with h | h
  · exact triB_spec trB13 (by omega) (by omega) (by omega)
  clear h1; have h1 := h; clear h
  rcases Nat.lt_or_ge p 4883 with h | h
  · exact triB_spec trB14 (by omega) (by omega) (by omega)
  clear h1; have h1 := h; clear h
  rcases Nat.lt_or_ge p 5445 with h | h
  · exact triB_spec trB15 (by omega) (by omega) (by omega)
  clear h1; have h1 := h; clear h
  rcases Nat.lt_or_ge p 6217 with h | h
  · exact triB_spec trB16 (by omega) (by omega) (by omega)
  clear h1; have h1 := h; clear h
  rcases Nat.lt_or_ge p 7001 with h | h
  · exact triB_spec trB17 (by omega) (by omega) (by omega)
  clear h1; have h1 := h; clear h
  rcases Nat.lt_or_ge p 7795 with h | h
  · exact triB_spec trB18 (by omega) (by omega) (by omega)
  clear h1; have h1 := h; clear h
  rcases Nat.lt_or_ge p 8597 with h | h
  · exact triB_spec trB19 (by omega) (by omega) (by omega)
  clear h1; have h1 := h; clear h
  rcases Nat.lt_or_ge p 9409 with h | h
  · exact triB_spec trB20 (by omega) (by omega) (by omega)
  clear h1; have h1 := h; clear h
  rcases Nat.lt_or_ge p 10563 with h | h
  · exact triB_spec trB21 (by omega) (by omega) (by omega)
  clear h1; have h1 := h; clear h
  rcases Nat.lt_or_ge p 12619 with h | h
  · exact triB_spec trB22 (by omega) (by omega) (by omega)
  clear h1; have h1 := h; clear h
  rcases Nat.lt_or_ge p 14711 with h | h
  · exact triB_spec trB23 (by omega) (by omega) (by omega)
  clear h1; have h1 := h; clear h
  rcases Nat.lt_or_ge p 16833 with h | h
  · exact triB_spec trB24 (by omega) (by omega) (by omega)
  clear h1; have h1 := h; clear h
  rcases Nat.lt_or_ge p 18983 with h | h
  · exact triB_spec trB25 (by omega) (by omega) (by omega)
  clear h1; have h1 := h; clear h
  rcases Nat.lt_or_ge p 21827 with h | h
  · exact triB_spec trB26 (by omega) (by omega) (by omega)
  clear h1; have h1 := h; clear h
  rcases Nat.lt_or_ge p 25309 with h | h
  · exact triB_spec trB27 (by omega) (by omega) (by omega)
  clear h1; have h1 := h; clear h
  rcases Nat.lt_or_ge p 28837 with h | h
  · exact triB_spec trB28 (by omega) (by omega) (by omega)
  clear h1; have h1 := h; clear h
  rcases Nat.lt_or_ge p 32407 with h | h
  · exact triB_spec trB29 (by omega) (by omega) (by omega)
  clear h1; have h1 := h; clear h
  rcases Nat.lt_or_ge p 36013 with h | h
  · exact triB_spec trB30 (by omega) (by omega) (by omega)
  clear h1; have h1 := h; clear h
  rcases Nat.lt_or_ge p 39653 with h | h
  · exact triB_spec trB31 (by omega) (by omega) (by omega)
  clear h1; have h1 := h; clear h
  rcases Nat.lt_or_ge p 43323 with h | h
  · exact triB_spec trB32 (by omega) (by omega) (by omega)
  clear h1; have h1 := h; clear h
  rcases Nat.lt_or_ge p 47021 with h | h
  · exact triB_spec trB33 (by omega) (by omega) (by omega)
  clear h1; have h1 := h; clear h
  rcases Nat.lt_or_ge p 50745 with h | h
  · exact triB_spec trB34 (by omega) (by omega) (by omega)
  clear h1; have h1 := h; clear h
  rcases Nat.lt_or_ge p 54495 with h | h
  · exact triB_spec trB35 (by omega) (by omega) (by omega)
  clear h1; have h1 := h; clear h
  rcases Nat.lt_or_ge p 58267 with h | h
  · exact triB_spec trB36 (by omega) (by omega) (by omega)
  clear h1; have h1 := h; clear h
  rcases Nat.lt_or_ge p 62061 with h | h
  · exact triB_spec trB37 (by omega) (by omega) (by omega)
  clear h1; have h1 := h; clear h
  exact triB_spec trB38 (by omega) (by omega) (by omega)
end Go.Proofs.YtpphfeinmmmckaaDoor
