/-
  Plain: the check of numbers of three primes or more, the least from 141 to 382: reckoned by the kernel (trigen.py prints this text).
-/
import Derived.Test.YtpphfeinmmmckaaDoorTriB
namespace Go.Proofs.YtpphfeinmmmckaaDoor
open Nt
set_option maxRecDepth 100000
theorem trB0 : triB 4294967296 4294967296 141 5 = true := by decide +kernel
theorem trB1 : triB 4294967296 4294967296 151 5 = true := by decide +kernel
theorem trB2 : triB 4294967296 4294967296 161 6 = true := by decide +kernel
theorem trB3 : triB 4294967296 4294967296 173 6 = true := by decide +kernel
theorem trB4 : triB 4294967296 4294967296 185 6 = true := by decide +kernel
theorem trB5 : triB 4294967296 4294967296 197 7 = true := by decide +kernel
theorem trB6 : triB 4294967296 4294967296 211 8 = true := by decide +kernel
theorem trB7 : triB 4294967296 4294967296 227 8 = true := by decide +kernel
theorem trB8 : triB 4294967296 4294967296 243 8 = true := by decide +kernel
theorem trB9 : triB 4294967296 4294967296 259 8 = true := by decide +kernel
theorem trB10 : triB 4294967296 4294967296 275 8 = true := by decide +kernel
theorem trB11 : triB 4294967296 4294967296 291 12 = true := by decide +kernel
theorem trB12 : triB 4294967296 4294967296 315 17 = true := by decide +kernel
theorem trB13 : triB 4294967296 4294967296 349 17 = true := by decide +kernel
theorem trB (p : Nat) (ho : p % 2 = 1) (h1 : 141 ≤ p) (h2 : p < 383) : ∃ rs W, (∀ e ∈ rs, e.1 ∈ ones ∧ e.2 = repD e.1.d (W / e.1.d + 2)) ∧ tri rs W 4294967296 (4294967296 / p) p = true := by
  rcases Nat.lt_or_ge p 151 with h | h
  · exact triB_spec trB0 (by omega) (by omega) (by omega)
  clear h1; have h1 := h; clear h
  rcases Nat.lt_or_ge p 161 with h | h
  · exact triB_spec trB1 (by omega) (by omega) (by omega)
  clear h1; have h1 := h; clear h
  rcases Nat.lt_or_ge p 173 with h | h
  · exact triB_spec trB2 (by omega) (by omega) (by omega)
  clear h1; have h1 := h; clear h
  rcases Nat.lt_or_ge p 185 with h | h
  · exact triB_spec trB3 (by omega) (by omega) (by omega)
  clear h1; have h1 := h; clear h
  rcases Nat.lt_or_ge p 197 with h | h
  · exact triB_spec trB4 (by omega) (by omega) (by omega)
  clear h1; have h1 := h; clear h
  rcases Nat.lt_or_ge p 211 with h | h
  · exact triB_spec trB5 (by omega) (by omega) (by omega)
  clear h1; have h1 := h; clear h
  rcases Nat.lt_or_ge p 227 with h | h
  · exact triB_spec trB6 (by omega) (by omega) (by omega)
  clear h1; have h1 := h; clear h
  rcases Nat.lt_or_ge p 243 with h | h
  · exact triB_spec trB7 (by omega) (by omega) (by omega)
  clear h1; have h1 := h; clear h
  rcases Nat.lt_or_ge p 259 with h | h
  · exact triB_spec trB8 (by omega) (by omega) (by omega)
  clear h1; have h1 := h; clear h
  rcases Nat.lt_or_ge p 275 with h | h
  · exact triB_spec trB9 (by omega) (by omega) (by omega)
  clear h1; have h1 := h; clear h
  rcases Nat.lt_or_ge p 291 with h | h
  · exact triB_spec trB10 (by omega) (by omega) (by omega)
  clear h1; have h1 := h; clear h
  rcases Nat.lt_or_ge p 315 with h | h
  · exact triB_spec trB11 (by omega) (by omega) (by omega)
  clear h1; have h1 := h; clear h
  rcases Nat.lt_or_ge p 349 with h | h
  · exact triB_spec trB12 (by omega) (by omega) (by omega)
  clear h1; have h1 := h; clear h
  exact triB_spec trB13 (by omega) (by omega) (by omega)
end Go.Proofs.YtpphfeinmmmckaaDoor
