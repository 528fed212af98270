/-
  Plain: blocks of least primes for the check of numbers of three primes or more.
-/
import Derived.Test.YtpphfeinmmmckaaDoorTri
namespace Go.Proofs.YtpphfeinmmmckaaDoor
open Nt

/-- All least primes from p0 on, n odd numbers; q goes up to Qm / p. -/
noncomputable def triB (wm Qm p0 n : Nat) : Bool :=
  force (Nat.div (Nat.div Qm p0) 8) fun W => reps W (fun rs => allFrom (fun t => force (Nat.add p0 (Nat.mul 2 t)) fun p => force (Nat.div Qm p) fun Q => tri rs W wm Q p) 0 n) ones []

theorem triB_spec {wm Qm p0 n p : Nat} (h : triB wm Qm p0 n = true) (h1 : p0 ≤ p) (h2 : p < p0 + 2 * n) (h3 : (p - p0) % 2 = 0) : ∃ rs W, (∀ e ∈ rs, e.1 ∈ ones ∧ e.2 = repD e.1.d (W / e.1.d + 2)) ∧ tri rs W wm (Qm / p) p = true := by
  unfold triB at h
  rw [force_eq] at h
  obtain ⟨rs, h4, h5⟩ := reps_spec h
  refine ⟨rs, Qm / p0 / 8, fun e he => ?_, ?_⟩
  · rcases h5 e he with h6 | h6
    · simp at h6
    · exact h6
  · have h6 := allFrom_spec h4 ((p - p0) / 2) (by omega)
    rw [Nat.zero_add, force_eq, force_eq] at h6
    have e : Nat.add p0 (Nat.mul 2 ((p - p0) / 2)) = p := by
      show p0 + 2 * ((p - p0) / 2) = p
      omega
    rw [e] at h6
    exact h6
end Go.Proofs.YtpphfeinmmmckaaDoor
