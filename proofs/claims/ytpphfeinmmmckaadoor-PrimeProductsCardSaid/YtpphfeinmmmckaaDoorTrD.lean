/-
  Plain: the check of numbers of three primes or more, the least from 1201 to 4324: reckoned by the kernel (trigen.py prints this text).
-/
import Derived.Test.YtpphfeinmmmckaaDoorTriB
namespace Go.Proofs.YtpphfeinmmmckaaDoor
open Nt
set_option maxRecDepth 100000
theorem trD0 : triB 4294967296 4294967296 1201 91 = true := by decide +kernel
theorem trD1 : triB 4294967296 4294967296 1383 93 = true := by decide +kernel
theorem trD2 : triB 4294967296 4294967296 1569 95 = true := by decide +kernel
theorem trD3 : triB 4294967296 4294967296 1759 96 = true := by decide +kernel
theorem trD4 : triB 4294967296 4294967296 1951 119 = true := by decide +kernel
theorem trD5 : triB 4294967296 4294967296 2189 128 = true := by decide +kernel
theorem trD6 : triB 4294967296 4294967296 2445 130 = true := by decide +kernel
theorem trD7 : triB 4294967296 4294967296 2705 132 = true := by decide +kernel
theorem trD8 : triB 4294967296 4294967296 2969 133 = true := by decide +kernel
theorem trD9 : triB 4294967296 4294967296 3235 134 = true := by decide +kernel
theorem trD10 : triB 4294967296 4294967296 3503 136 = true := by decide +kernel
theorem trD11 : triB 4294967296 4294967296 3775 137 = true := by decide +kernel
theorem trD12 : triB 4294967296 4294967296 4049 138 = true := by decide +kernel
theorem trD (p : Nat) (ho : p % 2 = 1) (h1 : 1201 ≤ p) (h2 : p < 4325) : ∃ rs W, (∀ e ∈ rs, e.1 ∈ ones ∧ e.2 = repD e.1.d (W / e.1.d + 2)) ∧ tri rs W 4294967296 (4294967296 / p) p = true := by
  rcases Nat.lt_or_ge p 1383 with h | h
  · exact triB_spec trD0 (by omega) (by omega) (by omega)
  clear h1; have h1 := h; clear h
  rcases Nat.lt_or_ge p 1569 with h | h
  · exact triB_spec trD1 (by omega) (by omega) (by omega)
  clear h1; have h1 := h; clear h
  rcases Nat.lt_or_ge p 1759 with h | h
  · exact triB_spec trD2 (by omega) (by omega) (by omega)
  clear h1; have h1 := h; clear h
  rcases Nat.lt_or_ge p 1951 with h | h
  · exact triB_spec trD3 (by omega) (by omega) (by omega)
  clear h1; have h1 := h; clear h
  rcases Nat.lt_or_ge p 2189 with h | h
  · exact triB_spec trD4 (by omega) (by omega) (by omega)
  clear h1; have h1 := h; clear h
  rcases Nat.lt_or_ge p 2445 with h | h
  · exact triB_spec trD5 (by omega) (by omega) (by omega)
  clear h1; have h1 := h; clear h
  rcases Nat.lt_or_ge p 2705 with h | h
  · exact triB_spec trD6 (by omega) (by omega) (by omega)
  clear h1; have h1 := h; clear h
  rcases Nat.lt_or_ge p 2969 with h | h
  · exact triB_spec trD7 (by omega) (by omega) (by omega)
  clear h1; have h1 := h; clear h
  rcases Nat.lt_or_ge p 3235 with h | h
  · exact triB_spec trD8 (by omega) (by omega) (by omega)
  clear h1; have h1 := h; clear h
  rcases Nat.lt_or_ge p 3503 with h | h
  · exact triB_spec trD9 (by omega) (by omega) (by omega)
  clear h1; have h1 := h; clear h
  rcases Nat.lt_or_ge p 3775 with h | h
  · exact triB_spec trD10 (by omega) (by omega) (by omega)
  clear h1; have h1 := h; clear h
  rcases Nat.lt_or_ge p 4049 with h | h
  · exact triB_spec trD11 (by omega) (by omega) (by omega)
  clear h1; have h1 := h; clear h
  exact triB_spec trD12 (by omega) (by omega) (by omega)
end Go.Proofs.YtpphfeinmmmckaaDoor
