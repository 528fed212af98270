/-
  Plain: the check of numbers of three primes or more, the least from 41 to 1200: reckoned by the kernel (trigen.py prints this text).
-/
import Derived.Test.YtpphfeinmmmckaaDoorMTri
namespace Go.Proofs.YtpphfeinmmmckaaDoor
open Nt
set_option maxRecDepth 100000
theorem trA0 : triB 4294967296 4294967296 41 2 = true := by decide +kernel
theorem trA1 : triB 4294967296 4294967296 45 2 = true := by decide +kernel
theorem trA2 : triB 4294967296 4294967296 49 2 = true := by decide +kernel
theorem trA3 : triB 4294967296 4294967296 53 2 = true := by decide +kernel
theorem trA4 : triB 4294967296 4294967296 57 2 = true := by decide +kernel
theorem trA5 : triB 4294967296 4294967296 61 2 = true := by decide +kernel
theorem trA6 : triB 4294967296 4294967296 65 2 = true := by decide +kernel
theorem trA7 : triB 4294967296 4294967296 69 2 = true := by decide +kernel
theorem trA8 : triB 4294967296 4294967296 73 2 = true := by decide +kernel
theorem trA9 : triB 4294967296 4294967296 77 3 = true := by decide +kernel
theorem trA10 : triB 4294967296 4294967296 83 3 = true := by decide +kernel
theorem trA11 : triB 4294967296 4294967296 89 3 = true := by decide +kernel
theorem trA12 : triB 4294967296 4294967296 95 3 = true := by decide +kernel
theorem trA13 : triB 4294967296 4294967296 101 5 = true := by decide +kernel
theorem trA14 : triB 4294967296 4294967296 111 5 = true := by decide +kernel
theorem trA15 : triB 4294967296 4294967296 121 5 = true := by decide +kernel
theorem trA16 : triB 4294967296 4294967296 131 5 = true := by decide +kernel
theorem trA17 : triB 4294967296 4294967296 141 5 = true := by decide +kernel
theorem trA18 : triB 4294967296 4294967296 151 5 = true := by decide +kernel
theorem trA19 : triB 4294967296 4294967296 161 6 = true := by decide +kernel
theorem trA20 : triB 4294967296 4294967296 173 6 = true := by decide +kernel
theorem trA21 : triB 4294967296 4294967296 185 6 = true := by decide +kernel
theorem trA22 : triB 4294967296 4294967296 197 7 = true := by decide +kernel
theorem trA23 : triB 4294967296 4294967296 211 8 = true := by decide +kernel
theorem trA24 : triB 4294967296 4294967296 227 8 = true := by decide +kernel
theorem trA25 : triB 4294967296 4294967296 243 8 = true := by decide +kernel
theorem trA26 : triB 4294967296 4294967296 259 8 = true := by decide +kernel
theorem trA27 : triB 4294967296 4294967296 275 8 = true := by decide +kernel
theorem trA28 : triB 4294967296 4294967296 291 12 = true := by decide +kernel
theorem trA29 : triB 4294967296 4294967296 315 17 = true := by decide +kernel
theorem trA30 : triB 4294967296 4294967296 349 17 = true := by decide +kernel
theorem trA31 : triB 4294967296 4294967296 383 17 = true := by decide +kernel
theorem trA32 : triB 4294967296 4294967296 417 18 = true := by decide +kernel
theorem trA33 : triB 4294967296 4294967296 453 18 = true := by decide +kernel
theorem trA34 : triB 4294967296 4294967296 489 25 = true := by decide +kernel
theorem trA35 : triB 4294967296 4294967296 539 28 = true := by decide +kernel
theorem trA36 : triB 4294967296 4294967296 595 28 = true := by decide +kernel
theorem trA37 : triB 4294967296 4294967296 651 29 = true := by decide +kernel
theorem trA38 : triB 4294967296 4294967296 709 29 = true := by decide +kernel
theorem trA39 : triB 4294967296 4294967296 767 30 = true := by decide +kernel
theorem trA40 : triB 4294967296 4294967296 827 30 = true := by decide +kernel
theorem trA41 : triB 4294967296 4294967296 887 30 = true := by decide +kernel
theorem trA42 : triB 4294967296 4294967296 947 38 = true := by decide +kernel
theorem trA43 : triB 4294967296 4294967296 1023 89 = true := by decide +kernel
theorem trA (p : Nat) (ho : p % 2 = 1) (h1 : 41 ≤ p) (h2 : p < 1201) : ∃ rs W, (∀ e ∈ rs, e.1 ∈ ones ∧ e.2 = repD e.1.d (W / e.1.d + 2)) ∧ tri rs W 4294967296 (4294967296 / p) p = true := by
  rcases Nat.lt_or_ge p 45 with h | h
  · exact triB_spec trA0 (by omega) (by omega) (by omega)
  clear h1; have h1 := h; clear h
  rcases Nat.lt_or_ge p 49 with h | h
  · exact triB_spec trA1 (by omega) (by omega) (by omega)
  clear h1; have h1 := h; clear h
  rcases Nat.lt_or_ge p 53 with h | h
  · exact triB_spec trA2 (by omega) (by omega) (by omega)
  clear h1; have h1 := h; clear h
  rcases Nat.lt_or_ge p 57 with h | h
  · exact triB_spec trA3 (by omega) (by omega) (by omega)
  clear h1; have h1 := h; clear h
  rcases Nat.lt_or_ge p 61 with h | h
  · exact triB_spec trA4 (by omega) (by omega) (by omega)
  clear h1; have h1 := h; clear h
  rcases Nat.lt_or_ge p 65 with h | h
  · exact triB_spec trA5 (by omega) (by omega) (by omega)
  clear h1; have h1 := h; clear h
  rcases Nat.lt_or_ge p 69 with h | h
  · exact triB_spec trA6 (by omega) (by omega) (by omega)
  clear h1; have h1 := h; clear h
  rcases Nat.lt_or_ge p 73 with h | h
  · exact triB_spec trA7 (by omega) (by omega) (by omega)
  clear h1; have h1 := h; clear h
  rcases Nat.lt_or_ge p 77 with h | h
  · exact triB_spec trA8 (by omega) (by omega) (by omega)
  clear h1; have h1 := h; clear h
  rcases Nat.lt_or_ge p 83 with h | h
  · exact triB_spec trA9 (by omega) (by omega) (by omega)
  clear h1; have h1 := h; clear h
  rcases Nat.lt_or_ge p 89 with h | h
  · exact triB_spec trA10 (by omega) (by omega) (by omega)
  clear h1; have h1 := h; clear h
  rcases Nat.lt_or_ge p 95 with h | h
  · exact triB_spec trA11 (by omega) (by omega) (by omega)
  clear h1; have h1 := h; clear h
  rcases Nat.lt_or_ge p 101 with h | h
  · exact triB_spec trA12 (by omega) (by omega) (by omega)
  clear h1; have h1 := h; clear h
  rcases Nat.lt_or_ge p 111 with h | h
  · exact triB_spec trA13 (by omega) (by omega) (by omega)
  clear h1; have h1 := h; clear h
  rcases Nat.lt_or_ge p 121 with h | h
  · exact triB_spec trA14 (by omega) (by omega) (by omega)
  clear h1; have h1 := h; clear h
  rcases Nat.lt_or_ge p 131 with h | h
  · exact triB_spec trA15 (by omega) (by omega) (by omega)
  clear h1; have h1 := h; clear h
  rcases Nat.lt_or_ge p 141 with h | h
  · exact triB_spec trA16 (by omega) (by omega) (by omega)
  clear h1; have h1 := h; clear h
  rcases Nat.lt_or_ge p 151 with h | h
  · exact triB_spec trA17 (by omega) (by omega) (by omega)
  clear h1; have h1 := h; clear h
  rcases Nat.lt_or_ge p 161 with h | h
  · exact triB_spec trA18 (by omega) (by omega) (by omega)
  clear h1; have h1 := h; clear h
  rcases Nat.lt_or_ge p 173 with h | h
  · exact triB_spec trA19 (by omega) (by omega) (by omega)
  clear h1; have h1 := h; clear h
  rcases Nat.lt_or_ge p 185 with h | h
  · exact triB_spec trA20 (by omega) (by omega) (by omega)
  clear h1; have h1 := h; clear h
  rcases Nat.lt_or_ge p 197 with h | h
  · exact triB_spec trA21 (by omega) (by omega) (by omega)
  clear h1; have h1 := h; clear h
  rcases Nat.lt_or_ge p 211 with h | h
  · exact triB_spec trA22 (by omega) (by omega) (by omega)
  clear h1; have h1 := h; clear h
  rcases Nat.lt_or_ge p 227 with h | h
  · exact triB_spec trA23 (by omega) (by omega) (by omega)
  clear h1; have h1 := h; clear h
  rcases Nat.lt_or_ge p 243 with h | h
  · exact triB_spec trA24 (by omega) (by omega) (by omega)
  clear h1; have h1 := h; clear h
  rcases Nat.lt_or_ge p 259 with h | h
  · exact triB_spec trA25 (by omega) (by omega) (by omega)
  clear h1; have h1 := h; clear h
  rcases Nat.lt_or_ge p 275 with h | h
  · exact triB_spec trA26 (by omega) (by omega) (by omega)
  clear h1; have h1 := h; clear h
  rcases Nat.lt_or_ge p 291 with h | h
  · exact triB_spec trA27 (by omega) (by omega) (by omega)
  clear h1; have h1 := h; clear h
  rcases Nat.lt_or_ge p 315 with h | h
  · exact triB_spec trA28 (by omega) (by omega) (by omega)
  clear h1; have h1 := h; clear h
  rcases Nat.lt_or_ge p 349 with h | h
  · exact triB_spec trA29 (by omega) (by omega) (by omega)
  clear h1; have h1 := h; clear h
  rcases Nat.lt_or_ge p 383 with h | h
  · exact triB_spec trA30 (by omega) (by omega) (by omega)
  clear h1; have h1 := h; clear h
  rcases Nat.lt_or_ge p 417 with h | h
  · exact triB_spec trA31 (by omega) (by omega) (by omega)
  clear h1; have h1 := h; clear h
  rcases Nat.lt_or_ge p 453 with h | h
  · exact triB_spec trA32 (by omega) (by omega) (by omega)
  clear h1; have h1 := h; clear h
  rcases Nat.lt_or_ge p 489 with h | h
  · exact triB_spec trA33 (by omega) (by omega) (by omega)
  clear h1; have h1 := h; clear h
  rcases Nat.lt_or_ge p 539 with h | h
  · exact triB_spec trA34 (by omega) (by omega) (by omega)
  clear h1; have h1 := h; clear h
  rcases Nat.lt_or_ge p 595 with h | h
  · exact triB_spec trA35 (by omega) (by omega) (by omega)
  clear h1; have h1 := h; clear h
  rcases Nat.lt_or_ge p 651 with h | h
  · exact triB_spec trA36 (by omega) (by omega) (by omega)
  clear h1; have h1 := h; clear h
  rcases Nat.lt_or_ge p 709 with h | h
  · exact triB_spec trA37 (by omega) (by omega) (by omega)
  clear h1; have h1 := h; clear h
  rcases Nat.lt_or_ge p 767 with h | h
  · exact triB_spec trA38 (by omega) (by omega) (by omega)
  clear h1; have h1 := h; clear h
  rcases Nat.lt_or_ge p 827 with h | h
  · exact triB_spec trA39 (by omega) (by omega) (by omega)
  clear h1; have h1 := h; clear h
  rcases Nat.lt_or_ge p 887 with h | h
  · exact triB_spec trA40 (by omega) (by omega) (by omega)
  clear h1; have h1 := h; clear h
  rcases Nat.lt_or_ge p 947 with h | h
  · exact triB_spec trA41 (by omega) (by omega) (by omega)
  clear h1; have h1 := h; clear h
  rcases Nat.lt_or_ge p 1023 with h | h
  · exact triB_spec trA42 (by omega) (by omega) (by omega)
  clear h1; have h1 := h; clear h
  exact triB_spec trA43 (by omega) (by omega) (by omega)
end Go.Proofs.YtpphfeinmmmckaaDoor
