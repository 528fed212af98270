/-
  Plain: the check of numbers of three primes or more, the least from 4325 to 18982: reckoned by the kernel (trigen.py prints this text).
-/
import Derived.Test.YtpphfeinmmmckaaDoorTriB
namespace Go.Proofs.YtpphfeinmmmckaaDoor
open Nt
set_option maxRecDepth 100000
theorem trE0 : triB 4294967296 4294967296 4325 139 = true := by decide +kernel
theorem trE1 : triB 4294967296 4294967296 4603 140 = true := by decide +kernel
theorem trE2 : triB 4294967296 4294967296 4883 281 = true := by decide +kernel
theorem trE3 : triB 4294967296 4294967296 5445 386 = true := by decide +kernel
theorem trE4 : triB 4294967296 4294967296 6217 392 = true := by decide +kernel
theorem trE5 : triB 4294967296 4294967296 7001 397 = true := by decide +kernel
theorem trE6 : triB 4294967296 4294967296 7795 401 = true := by decide +kernel
theorem trE7 : triB 4294967296 4294967296 8597 406 = true := by decide +kernel
theorem trE8 : triB 4294967296 4294967296 9409 577 = true := by decide +kernel
theorem trE9 : triB 4294967296 4294967296 10563 1028 = true := by decide +kernel
theorem trE10 : triB 4294967296 4294967296 12619 1046 = true := by decide +kernel
theorem trE11 : triB 4294967296 4294967296 14711 1061 = true := by decide +kernel
theorem trE12 : triB 4294967296 4294967296 16833 1075 = true := by decide +kernel
theorem trE (p : Nat) (ho : p % 2 = 1) (h1 : 4325 ≤ p) (h2 : p < 18983) : ∃ rs W, (∀ e ∈ rs, e.1 ∈ ones ∧ e.2 = repD e.1.d (W / e.1.d + 2)) ∧ tri rs W 4294967296 (4294967296 / p) p = true := by
  rcases Nat.lt_or_ge p 4603 with h | h
  · exact triB_spec trE0 (by omega) (by omega) (by omega)
  clear h1; have h1 := h; clear h
  rcases Nat.lt_or_ge p 4883 with h | h
  · exact triB_spec trE1 (by omega) (by omega) (by omega)
  clear h1; have h1 := h; clear h
  rcases Nat.lt_or_ge p 5445 with h | h
  · exact triB_spec trE2 (by omega) (by omega) (by omega)
  clear h1; have h1 := h; clear h
  rcases Nat.lt_or_ge p 6217 with h | h
  · exact triB_spec trE3 (by omega) (by omega) (by omega)
  clear h1; have h1 := h; clear h
  rcases Nat.lt_or_ge p 7001 with h | h
  · exact triB_spec trE4 (by omega) (by omega) (by omega)
  clear h1; have h1 := h; clear h
  rcases Nat.lt_or_ge p 7795 with h | h
  · exact triB_spec trE5 (by omega) (by omega) (by omega)
  clear h1; have h1 := h; clear h
  rcases Nat.lt_or_ge p 8597 with h | h
  · exact triB_spec trE6 (by omega) (by omega) (by omega)
  clear h1; have h1 := h; clear h
  rcases Nat.lt_or_ge p 9409 with h | h
  · exact triB_spec trE7 (by omega) (by omega) (by omega)
  clear h1; have h1 := h; clear h
  rcases Nat.lt_or_ge p 10563 with h | h
  · exact triB_spec trE8 (by omega) (by omega) (by omega)
  clear h1; have h1 := h; clear h
  rcases Nat.lt_or_ge p 12619 with h | h
  · exact triB_spec trE9 (by omega) (by omega) (by omega)
  clear h1; have h1 := h; clear h
  rcases Nat.lt_or_ge p 14711 with h | h
  · exact triB_spec trE10 (by omega) (by omega) (by omega)
  clear h1; have h1 := h; clear h
  rcases Nat.lt_or_ge p 16833 with h | h
  · exact triB_spec trE11 (by omega) (by omega) (by omega)
  clear h1; have h1 := h; clear h
  exact triB_spec trE12 (by omega) (by omega) (by omega)
end Go.Proofs.YtpphfeinmmmckaaDoor
