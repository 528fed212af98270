/-
  Plain: the strong test passes every prime: mrIs of a prime below 2^63 is true; and what passing tells of a number.
-/
import Derived.Test.YtpphfeinmmmckaaDoorMr
import Derived.Test.YtpphfeinmmmckaaDoorNt
namespace Go.Proofs.YtpphfeinmmmckaaDoor
open Nt

theorem sq_one {p x : Nat} (hp : Prime p) (hx : x < p) (h : x * x % p = 1) : x = 1 ∨ x = p - 1 := by
  have h2 := hp.1
  have hx0 : 1 ≤ x := by
    rcases Nat.eq_zero_or_pos x with h0 | h0
    · rw [h0, Nat.zero_mul, Nat.zero_mod] at h; omega
    · exact h0
  have h1 : p ∣ x * x - 1 := by
    refine mod_eq_dvd ?_ (Nat.mul_le_mul hx0 hx0)
    rw [h, Nat.mod_eq_of_lt (by omega)]
  have e : x * x - 1 = (x - 1) * (x + 1) := by
    obtain ⟨y, rfl⟩ : ∃ y, x = y + 1 := ⟨x - 1, by omega⟩
    have e1 : (y + 1) * (y + 1) = y * y + 2 * y + 1 := by rw [Nat.add_mul, Nat.mul_add]; omega
    have e2 : y * (y + 1 + 1) = y * y + 2 * y := by rw [Nat.mul_add, Nat.mul_add]; omega
    rw [Nat.add_sub_cancel, e1, e2]; omega
  rw [e] at h1
  rcases euclid hp h1 with h3 | h3
  · left
    rcases Nat.eq_zero_or_pos (x - 1) with h0 | h0
    · omega
    · have := Nat.le_of_dvd h0 h3; omega
  · right
    have := Nat.le_of_dvd (by omega) h3; omega

theorem squares_true {p : Nat} (hp : Prime p) : ∀ (k x : Nat), x < p → x ≠ 1 → x ≠ p - 1 → x ^ 2 ^ (k + 1) % p = 1 → squares p k x = true
  | 0, x, hx, h1, h2, h => by
    rw [show 2 ^ (0 + 1) = 2 from rfl, Nat.pow_two] at h
    rcases sq_one hp hx h with h3 | h3
    · exact absurd h3 h1
    · exact absurd h3 h2
  | k + 1, x, hx, h1, h2, h => by
    unfold squares
    by_cases h3 : x * x % p = p - 1
    · rw [if_pos h3]
    · rw [if_neg h3]
      have h2p := hp.1
      refine squares_true hp k _ (Nat.mod_lt _ (by omega)) ?_ h3 ?_
      · intro h4
        rcases sq_one hp hx h4 with h5 | h5
        · exact h1 h5
        · exact h2 h5
      · rw [← Nat.pow_mod, ← Nat.pow_two, ← Nat.pow_mul, ← Nat.pow_succ']
        exact h

theorem strong_true {p odd twos b : Nat} (hp : Prime p) (ht : 1 ≤ twos) (hpo : p - 1 = 2 ^ twos * odd) (hb : ¬ p ∣ b) : strong p odd twos b = true := by
  unfold strong
  by_cases h : b ^ odd % p = 1 ∨ b ^ odd % p = p - 1
  · rw [if_pos h]
  · rw [if_neg h]
    have h2 := hp.1
    refine squares_true hp _ _ (Nat.mod_lt _ (by omega)) (fun e => h (.inl e)) (fun e => h (.inr e)) ?_
    rw [← Nat.pow_mod, ← Nat.pow_mul, show twos - 1 + 1 = twos by omega, Nat.mul_comm, ← hpo]
    exact fermat hp hb

theorem base_prime (k : Nat) (hk : k < 12) : ∀ d, d ∣ baseAt k → d = 1 ∨ d = baseAt k := by
  have key : ∀ k : Fin 12, ∀ d : Fin 38, d.val ∣ baseAt k.val → d.val = 1 ∨ d.val = baseAt k.val := by decide +kernel
  intro d hd
  have hb := baseAt_lo k hk
  have := Nat.le_of_dvd (by omega) hd
  exact key ⟨k, hk⟩ ⟨d, by omega⟩ hd

theorem small_has_base : ∀ n : Fin 38, 2 ≤ n.val → ∃ k : Fin 12, n.val % baseAt k.val = 0 := by decide +kernel

/-- Every prime below 2^63 passes. -/
theorem mrIs_prime {p : Nat} (hp : Prime p) (hlt : p < 9223372036854775808) : mrIs p = true := by
  have h2 := hp.1
  unfold mrIs
  rw [if_neg (by omega)]
  cases hf : (List.range 12).find? (fun k => p % baseAt k == 0) with
  | some k =>
    obtain ⟨a, b, _⟩ := find_some hf
    have hd : baseAt k ∣ p := Nat.dvd_of_mod_eq_zero (by simpa using b)
    have hb := baseAt_lo k a
    rcases hp.2 _ hd with h | h
    · omega
    · show (p == baseAt k) = true
      rw [h]; simp
  | none =>
    have hn := List.find?_eq_none.1 hf
    have hno : ∀ j, j < 12 → p % baseAt j ≠ 0 := fun j hj => by have := hn j (List.mem_range.2 hj); simpa using this
    have h38 : 38 ≤ p := by
      rcases Nat.lt_or_ge p 38 with h | h
      · obtain ⟨k, hk⟩ := small_has_base ⟨p, h⟩ h2
        exact absurd hk (hno k.val k.isLt)
      · exact h
    have h0 : p % 2 ≠ 0 := hno 0 (by omega)
    obtain ⟨t1, _, _, t4, _⟩ := ctz_even (p - 1) (by omega) (by omega) (by omega)
    show strongs p _ _ = true
    unfold strongs
    rw [List.all_eq_true]
    intro j hj
    have hj := List.mem_range.1 hj
    refine strong_true hp t1 t4 fun hd => ?_
    have := Nat.le_of_dvd (by have := baseAt_lo j hj; omega) hd
    have := baseAt_lo j hj
    omega

/-- What a strong test that is passed tells: the power is 1, or some power on the way is n - 1. -/
theorem squares_spec {n : Nat} : ∀ (k x : Nat), squares n k x = true → ∃ i, 1 ≤ i ∧ i ≤ k ∧ x ^ 2 ^ i % n = n - 1
  | 0, x, h => by simp [squares] at h
  | k + 1, x, h => by
    unfold squares at h
    by_cases h3 : x * x % n = n - 1
    · exact ⟨1, Nat.le_refl _, by omega, by rw [Nat.pow_one, Nat.pow_two]; exact h3⟩
    · rw [if_neg h3] at h
      obtain ⟨i, h1, h2, h4⟩ := squares_spec k _ h
      refine ⟨i + 1, by omega, by omega, ?_⟩
      rw [← Nat.pow_mod, ← Nat.pow_two, ← Nat.pow_mul, ← Nat.pow_succ'] at h4
      exact h4

theorem strong_spec {n odd twos b : Nat} (ht : 1 ≤ twos) (h : strong n odd twos b = true) : b ^ odd % n = 1 ∨ ∃ i, i < twos ∧ b ^ (odd * 2 ^ i) % n = n - 1 := by
  unfold strong at h
  by_cases h1 : b ^ odd % n = 1
  · exact .inl h1
  · right
    by_cases h2 : b ^ odd % n = n - 1
    · exact ⟨0, by omega, by rw [Nat.pow_zero, Nat.mul_one]; exact h2⟩
    · rw [if_neg (by rintro (h | h); exact h1 h; exact h2 h)] at h
      obtain ⟨i, h3, h4, h5⟩ := squares_spec _ _ h
      refine ⟨i, by omega, ?_⟩
      rw [← Nat.pow_mod, ← Nat.pow_mul] at h5
      exact h5

theorem minus_one_sq {n x : Nat} (hn : 2 ≤ n) (h : x % n = n - 1) : x * x % n = 1 := by
  rw [Nat.mul_mod, h]
  have e : (n - 1) * (n - 1) = 1 + n * (n - 2) := by
    obtain ⟨m, rfl⟩ : ∃ m, n = m + 2 := ⟨n - 2, by omega⟩
    rw [show m + 2 - 1 = m + 1 by omega, show m + 2 - 2 = m by omega]
    rw [Nat.add_mul, Nat.mul_add, Nat.add_mul]
    omega
  rw [e, Nat.add_mul_mod_self_left, Nat.mod_eq_of_lt (by omega)]

/-- Who passes the strong test passes Fermat's. -/
theorem strong_fermat {n odd twos b : Nat} (hn : 2 ≤ n) (ht : 1 ≤ twos) (hpo : n - 1 = 2 ^ twos * odd) (h : strong n odd twos b = true) : b ^ (n - 1) % n = 1 := by
  rw [hpo, Nat.mul_comm]
  rcases strong_spec ht h with h1 | ⟨i, h1, h2⟩
  · have : b ^ odd % n = 1 % n := by rw [h1, Nat.mod_eq_of_lt (by omega)]
    rw [pow_mul_one this, Nat.mod_eq_of_lt (by omega)]
  · have h3 := minus_one_sq hn h2
    rw [← Nat.pow_two, ← Nat.pow_mul, Nat.mul_assoc, ← Nat.pow_succ] at h3
    have e : odd * 2 ^ twos = odd * 2 ^ (i + 1) * 2 ^ (twos - (i + 1)) := by
      rw [Nat.mul_assoc, ← Nat.pow_add]
      congr 2
      omega
    have h4 : b ^ (odd * 2 ^ (i + 1)) % n = 1 % n := by rw [h3, Nat.mod_eq_of_lt (by omega)]
    rw [e, pow_mul_one h4, Nat.mod_eq_of_lt (by omega)]
end Go.Proofs.YtpphfeinmmmckaaDoor
