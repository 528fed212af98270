/-
  Plain: what both Factor functions compute: trial by rising divisors; no program in sight.
-/
namespace Go.Proofs.YtpphfeinmmmckaaDoor

/-- p divided out of n, again and again: what is left, and how often (k more). -/
def divOut (p : Nat) : Nat → Nat → Nat → Nat × Nat
  | 0, n, k => (n, k)
  | f + 1, n, k => if n % p = 0 then divOut p f (n / p) (k + 1) else (n, k)

/-- The primes from p on that divide n, and how often. -/
def facLoop : Nat → Nat → Nat → List (Nat × Nat)
  | 0, _, _ => []
  | f + 1, n, p =>
    if n ≤ 1 then []
    else
      let p' := if n < p * p then n else p
      let r := divOut p' 64 n 0
      if 0 < r.2 then (p', r.2) :: facLoop f r.1 (p' + 1) else facLoop f r.1 (p' + 1)

/-- What Factor answers of a number from 1 to 2^40. -/
def facs (n : Nat) : List (Nat × Nat) := facLoop 1048577 n 2

theorem divOut_step {p f n k : Nat} (h : n % p = 0) : divOut p (f + 1) n k = divOut p f (n / p) (k + 1) := by rw [divOut, if_pos h]
theorem divOut_stop {p f n k : Nat} (h : n % p ≠ 0) : divOut p f n k = (n, k) := by
  cases f with
  | zero => rfl
  | succ f => rw [divOut, if_neg h]

theorem facLoop_succ {f n p : Nat} (h : ¬ n ≤ 1) : facLoop (f + 1) n p =
    if 0 < (divOut (if n < p * p then n else p) 64 n 0).2 then ((if n < p * p then n else p), (divOut (if n < p * p then n else p) 64 n 0).2) :: facLoop f (divOut (if n < p * p then n else p) 64 n 0).1 ((if n < p * p then n else p) + 1)
    else facLoop f (divOut (if n < p * p then n else p) 64 n 0).1 ((if n < p * p then n else p) + 1) := by rw [facLoop, if_neg h]
theorem facLoop_one (g p : Nat) : facLoop g 1 p = [] := by cases g <;> simp [facLoop]

theorem div_half {n p g : Nat} (hp : 2 ≤ p) (h : n < 2 ^ (g + 1)) : n / p < 2 ^ g := by
  refine (Nat.div_lt_iff_lt_mul (by omega)).2 ?_
  have : 2 ^ g * 2 ≤ 2 ^ g * p := Nat.mul_le_mul_left _ hp
  rw [Nat.pow_succ] at h
  omega

theorem div_pos_of_mod {n p : Nat} (hn : 1 ≤ n) (h : n % p = 0) : 1 ≤ n / p := by
  rcases Nat.eq_zero_or_pos (n / p) with h0 | h0
  · have := Nat.div_add_mod n p
    rw [h0, h, Nat.mul_zero] at this
    omega
  · exact h0

/-- What dividing out leaves: a number from 1 on, not divisible any more. -/
theorem divOut_spec {p : Nat} (hp : 2 ≤ p) : ∀ {f n k : Nat}, 1 ≤ n → n < 2 ^ f →
    1 ≤ (divOut p f n k).1 ∧ (divOut p f n k).1 % p ≠ 0 ∧ k ≤ (divOut p f n k).2 ∧ n = (divOut p f n k).1 * p ^ ((divOut p f n k).2 - k) ∧ (n % p = 0 → k < (divOut p f n k).2) := by
  intro f
  induction f with
  | zero => intro n k h1 h2; simp at h2; omega
  | succ f ih =>
    intro n k h1 h2
    by_cases h : n % p = 0
    · rw [divOut_step h]
      obtain ⟨a, b, c, d, _⟩ := ih (k := k + 1) (div_pos_of_mod h1 h) (div_half hp h2)
      refine ⟨a, b, by omega, ?_, fun _ => by omega⟩
      have e : (divOut p f (n / p) (k + 1)).2 - k = (divOut p f (n / p) (k + 1)).2 - (k + 1) + 1 := by omega
      rw [e, Nat.pow_succ, ← Nat.mul_assoc, ← d]
      exact (Nat.div_mul_cancel (Nat.dvd_of_mod_eq_zero h)).symm
    · rw [divOut_stop h]
      refine ⟨h1, h, Nat.le_refl _, by simp, fun h' => absurd h' h⟩

end Go.Proofs.YtpphfeinmmmckaaDoor
