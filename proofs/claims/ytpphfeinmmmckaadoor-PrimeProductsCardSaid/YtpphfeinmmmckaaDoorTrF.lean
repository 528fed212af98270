/-
  Plain: the check of numbers of three primes or more, the least from 18983 to 65536: reckoned by the kernel (trigen.py prints this text).
-/
import Derived.Test.YtpphfeinmmmckaaDoorTriB
namespace Go.Proofs.YtpphfeinmmmckaaDoor
open Nt
set_option maxRecDepth 100000
theorem trF0 : triB 4294967296 4294967296 18983 1422 = true := by decide +kernel
theorem trF1 : triB 4294967296 4294967296 21827 1741 = true := by decide +kernel
theorem trF2 : triB 4294967296 4294967296 25309 1764 = true := by decide +kernel
theorem trF3 : triB 4294967296 4294967296 28837 1785 = true := by decide +kernel
theorem trF4 : triB 4294967296 4294967296 32407 1803 = true := by decide +kernel
theorem trF5 : triB 4294967296 4294967296 36013 1820 = true := by decide +kernel
theorem trF6 : triB 4294967296 4294967296 39653 1835 = true := by decide +kernel
theorem trF7 : triB 4294967296 4294967296 43323 1849 = true := by decide +kernel
theorem trF8 : triB 4294967296 4294967296 47021 1862 = true := by decide +kernel
theorem trF9 : triB 4294967296 4294967296 50745 1875 = true := by decide +kernel
theorem trF10 : triB 4294967296 4294967296 54495 1886 = true := by decide +kernel
theorem trF11 : triB 4294967296 4294967296 58267 1897 = true := by decide +kernel
theorem trF12 : triB 4294967296 4294967296 62061 1738 = true := by decide +kernel
theorem trF (p : Nat) (ho : p % 2 = 1) (h1 : 18983 ≤ p) (h2 : p < 65537) : ∃ rs W, (∀ e ∈ rs, e.1 ∈ ones ∧ e.2 = repD e.1.d (W / e.1.d + 2)) ∧ tri rs W 4294967296 (4294967296 / p) p = true := by
  rcases Nat.lt_or_ge p 21827 with h | h
  · exact triB_spec trF0 (by omega) (by omega) (by omega)
  clear h1; have h1 := h; clear h
  rcases Nat.lt_or_ge p 25309 with h | h
  · exact triB_spec trF1 (by omega) (by omega) (by omega)
  clear h1; have h1 := h; clear h
  rcases Nat.lt_or_ge p 28837 with h | h
  · exact triB_spec trF2 (by omega) (by omega) (by omega)
  clear h1; have h1 := h; clear h
  rcases Nat.lt_or_ge p 32407 with h | h
  · exact triB_spec trF3 (by omega) (by omega) (by omega)
  clear h1; have h1 := h; clear h
  rcases Nat.lt_or_ge p 36013 with h | h
  · exact triB_spec trF4 (by omega) (by omega) (by omega)
  clear h1; have h1 := h; clear h
  rcases Nat.lt_or_ge p 39653 with h | h
  · exact triB_spec trF5 (by omega) (by omega) (by omega)
  clear h1; have h1 := h; clear h
  rcases Nat.lt_or_ge p 43323 with h | h
  · exact triB_spec trF6 (by omega) (by omega) (by omega)
  clear h1; have h1 := h; clear h
  rcases Nat.lt_or_ge p 47021 with h | h
  · exact triB_spec trF7 (by omega) (by omega) (by omega)
  clear h1; have h1 := h; clear h
  rcases Nat.lt_or_ge p 50745 with h | h
  · exact triB_spec trF8 (by omega) (by omega) (by omega)
  clear h1; have h1 := h; clear h
  rcases Nat.lt_or_ge p 54495 with h | h
  · exact triB_spec trF9 (by omega) (by omega) (by omega)
  clear h1; have h1 := h; clear h
  rcases Nat.lt_or_ge p 58267 with h | h
  · exact triB_spec trF10 (by omega) (by omega) (by omega)
  clear h1; have h1 := h; clear h
  rcases Nat.lt_or_ge p 62061 with h | h
  · exact triB_spec trF11 (by omega) (by omega) (by omega)
  clear h1; have h1 := h; clear h
  exact triB_spec trF12 (by omega) (by omega) (by omega)
end Go.Proofs.YtpphfeinmmmckaaDoor
