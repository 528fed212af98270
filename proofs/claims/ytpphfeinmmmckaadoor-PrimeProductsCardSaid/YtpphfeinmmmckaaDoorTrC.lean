/-
  Plain: the check of numbers of three primes or more, the least from 383 to 1200: reckoned by the kernel (trigen.py prints this text).
-/
import Derived.Test.YtpphfeinmmmckaaDoorTriB
namespace Go.Proofs.YtpphfeinmmmckaaDoor
open Nt
set_option maxRecDepth 100000
theorem trC0 : triB 4294967296 4294967296 383 17 = true := by decide +kernel
theorem trC1 : triB 4294967296 4294967296 417 18 = true := by decide +kernel
theorem trC2 : triB 4294967296 4294967296 453 18 = true := by decide +kernel
theorem trC3 : triB 4294967296 4294967296 489 25 = true := by decide +kernel
theorem trC4 : triB 4294967296 4294967296 539 28 = true := by decide +kernel
theorem trC5 : triB 4294967296 4294967296 595 28 = true := by decide +kernel
theorem trC6 : triB 4294967296 4294967296 651 29 = true := by decide +kernel
theorem trC7 : triB 4294967296 4294967296 709 29 = true := by decide +kernel
theorem trC8 : triB 4294967296 4294967296 767 30 = true := by decide +kernel
theorem trC9 : triB 4294967296 4294967296 827 30 = true := by decide +kernel
theorem trC10 : triB 4294967296 4294967296 887 30 = true := by decide +kernel
theorem trC11 : triB 4294967296 4294967296 947 38 = true := by decide +kernel
theorem trC12 : triB 4294967296 4294967296 1023 89 = true := by decide +kernel
theorem trC (p : Nat) (ho : p % 2 = 1) (h1 : 383 ≤ p) (h2 : p < 1201) : ∃ rs W, (∀ e ∈ rs, e.1 ∈ ones ∧ e.2 = repD e.1.d (W / e.1.d + 2)) ∧ tri rs W 4294967296 (4294967296 / p) p = true := by
  rcases Nat.lt_or_ge p 417 with h | h
  · exact triB_spec trC0 (by omega) (by omega) (by omega)
  clear h1; have h1 := h; clear h
  rcases Nat.lt_or_ge p 453 with h | h
  · exact triB_spec trC1 (by omega) (by omega) (by omega)
  clear h1; have h1 := h; clear h
  rcases Nat.lt_or_ge p 489 with h | h
  · exact triB_spec trC2 (by omega) (by omega) (by omega)
  clear h1; have h1 := h; clear h
  rcases Nat.lt_or_ge p 539 with h | h
  · exact triB_spec trC3 (by omega) (by omega) (by omega)
  clear h1; have h1 := h; clear h
  rcases Nat.lt_or_ge p 595 with h | h
  · exact triB_spec trC4 (by omega) (by omega) (by omega)
  clear h1; have h1 := h; clear h
  rcases Nat.lt_or_ge p 651 with h | h
  · exact triB_spec trC5 (by omega) (by omega) (by omega)
  clear h1; have h1 := h; clear h
  rcases Nat.lt_or_ge p 709 with h | h
  · exact triB_spec trC6 (by omega) (by omega) (by omega)
  clear h1; have h1 := h; clear h
  rcases Nat.lt_or_ge p 767 with h | h
  · exact triB_spec trC7 (by omega) (by omega) (by omega)
  clear h1; have h1 := h; clear h
  rcases Nat.lt_or_ge p 827 with h | h
  · exact triB_spec trC8 (by omega) (by omega) (by omega)
  clear h1; have h1 := h; clear h
  rcases Nat.lt_or_ge p 887 with h | h
  · exact triB_spec trC9 (by omega) (by omega) (by omega)
  clear h1; have h1 := h; clear h
  rcases Nat.lt_or_ge p 947 with h | h
  · exact triB_spec trC10 (by omega) (by omega) (by omega)
  clear h1; have h1 := h; clear h
  rcases Nat.lt_or_ge p 1023 with h | h
  · exact triB_spec trC11 (by omega) (by omega) (by omega)
  clear h1; have h1 := h; clear h
  exact triB_spec trC12 (by omega) (by omega) (by omega)
end Go.Proofs.YtpphfeinmmmckaaDoor
