/-
  Plain: the check of numbers of three primes or more, the least from 41 to 140: reckoned by the kernel (trigen.py prints this text).
-/
import Derived.Test.YtpphfeinmmmckaaDoorTriB
namespace Go.Proofs.YtpphfeinmmmckaaDoor
open Nt
set_option maxRecDepth 100000
theorem trA0 : triB 4294967296 4294967296 41 2 = true := by decide +kernel
theorem trA1 : triB 4294967296 4294967296 45 2 = true := by decide +kernel
theorem trA2 : triB 4294967296 4294967296 49 2 = true := by decide +kernel
theorem trA3 : triB 4294967296 4294967296 53 2 = true := by decide +kernel
theorem trA4 : triB 4294967296 4294967296 57 2 = true := by decide +kernel
theorem trA5 : triB 4294967296 4294967296 61 2 = true := by decide +kernel
theorem trA6 : triB 4294967296 4294967296 65 2 = true := by decide +kernel
theorem trA7 : triB 4294967296 4294967296 69 2 = true := by decide +kernel
theorem trA8 : triB 4294967296 4294967296 73 2 = true := by decide +kernel
theorem trA9 : triB 4294967296 4294967296 77 3 = true := by decide +kernel
theorem trA10 : triB 4294967296 4294967296 83 3 = true := by decide +kernel
theorem trA11 : triB 4294967296 4294967296 89 3 = true := by decide +kernel
theorem trA12 : triB 4294967296 4294967296 95 3 = true := by decide +kernel
theorem trA13 : triB 4294967296 4294967296 101 5 = true := by decide +kernel
theorem trA14 : triB 4294967296 4294967296 111 5 = true := by decide +kernel
theorem trA15 : triB 4294967296 4294967296 121 5 = true := by decide +kernel
theorem trA16 : triB 4294967296 4294967296 131 5 = true := by decide +kernel
theorem trA (p : Nat) (ho : p % 2 = 1) (h1 : 41 ≤ p) (h2 : p < 141) : ∃ rs W, (∀ e ∈ rs, e.1 ∈ ones ∧ e.2 = repD e.1.d (W / e.1.d + 2)) ∧ tri rs W 4294967296 (4294967296 / p) p = true := by
  rcases Nat.lt_or_ge p 45 with h | h
  · exact triB_spec trA0 (by omega) (by omega) (by omega)
  clear h1; have h1 := h; clear h
  rcases Nat.lt_or_ge p 49 with h | h
  · exact triB_spec trA1 (by omega) (by omega) (by omega)
  clear h1; have h1 := h; clear h
  rcases Nat.lt_or_ge p 53 with h | h
  · exact triB_spec trA2 (by omega) (by omega) (by omega)
  clear h1; have h1 := h; clear h
  rcases Nat.lt_or_ge p 57 with h | h
  · exact triB_spec trA3 (by omega) (by omega) (by omega)
  clear h1; have h1 := h; clear h
  rcases Nat.lt_or_ge p 61 with h | h
  · exact triB_spec trA4 (by omega) (by omega) (by omega)
  clear h1; have h1 := h; clear h
  rcases Nat.lt_or_ge p 65 with h | h
  · exact triB_spec trA5 (by omega) (by omega) (by omega)
  clear h1; have h1 := h; clear h
  rcases Nat.lt_or_ge p 69 with h | h
  · exact triB_spec trA6 (by omega) (by omega) (by omega)
  clear h1; have h1 := h; clear h
  rcases Nat.lt_or_ge p 73 with h | h
  · exact triB_spec trA7 (by omega) (by omega) (by omega)
  clear h1; have h1 := h; clear h
  rcases Nat.lt_or_ge p 77 with h | h
  · exact triB_spec trA8 (by omega) (by omega) (by omega)
  clear h1; have h1 := h; clear h
  rcases Nat.lt_or_ge p 83 with h | h
  · exact triB_spec trA9 (by omega) (by omega) (by omega)
  clear h1; have h1 := h; clear h
  rcases Nat.lt_or_ge p 89 with h | h
  · exact triB_spec trA10 (by omega) (by omega) (by omega)
  clear h1; have h1 := h; clear h
  rcases Nat.lt_or_ge p 95 with h | h
  · exact triB_spec trA11 (by omega) (by omega) (by omega)
  clear h1; have h1 := h; clear h
  rcases Nat.lt_or_ge p 101 with h | h
  · exact triB_spec trA12 (by omega) (by omega) (by omega)
  clear h1; have h1 := h; clear h
  rcases Nat.lt_or_ge p 111 with h | h
  · exact triB_spec trA13 (by omega) (by omega) (by omega)
  clear h1; have h1 := h; clear h
  rcases Nat.lt_or_ge p 121 with h | h
  · exact triB_spec trA14 (by omega) (by omega) (by omega)
  clear h1; have h1 := h; clear h
  rcases Nat.lt_or_ge p 131 with h | h
  · exact triB_spec trA15 (by omega) (by omega) (by omega)
  clear h1; have h1 := h; clear h
  exact triB_spec trA16 (by omega) (by omega) (by omega)
end Go.Proofs.YtpphfeinmmmckaaDoor
