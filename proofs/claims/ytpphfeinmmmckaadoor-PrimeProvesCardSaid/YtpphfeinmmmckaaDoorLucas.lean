/-
  Plain: Lucas' test: who has an element of order n - 1 is a prime; one great prime by it.
-/
import Derived.Test.YtpphfeinmmmckaaDoorNt
namespace Go.Proofs.YtpphfeinmmmckaaDoor.Nt

/-- g's powers are 1 for the first time at n - 1: n is a prime. -/
theorem lucas {n g : Nat} (hn : 2 ≤ n) (h1 : g ^ (n - 1) % n = 1) (h : ∀ r, Prime r → r ∣ n - 1 → g ^ ((n - 1) / r) % n ≠ 1) : Prime n := by
  have hone : 1 % n = 1 := Nat.mod_eq_of_lt (by omega)
  have hord : ∀ k, 0 < k → k < n - 1 → g ^ k % n ≠ 1 := by
    intro k hk hkn hg
    have hd := pow_gcd k (n - 1) (by rw [hg, hone]) (by rw [h1, hone])
    have hgd : Nat.gcd k (n - 1) ∣ n - 1 := Nat.gcd_dvd_right _ _
    have hle : Nat.gcd k (n - 1) ≤ k := Nat.le_of_dvd hk (Nat.gcd_dvd_left _ _)
    obtain ⟨c, hc⟩ := hgd
    have hc2 : 2 ≤ c := by
      rcases c with _ | _ | c
      · rw [Nat.mul_zero] at hc; omega
      · rw [Nat.mul_one] at hc; omega
      · omega
    obtain ⟨r, hr, ⟨c', rfl⟩, _⟩ := least_factor c hc2
    have e : (n - 1) / r = Nat.gcd k (n - 1) * c' := by
      have : n - 1 = r * (Nat.gcd k (n - 1) * c') := by rw [Nat.mul_left_comm]; exact hc
      exact Nat.div_eq_of_eq_mul_right (by have := hr.1; omega) this
    refine h r hr ⟨Nat.gcd k (n - 1) * c', by rw [Nat.mul_left_comm]; exact hc⟩ ?_
    rw [e, pow_mul_one hd, hone]
  -- every power is invertible
  have hinv : ∀ i, i ≤ n - 1 → g ^ i * g ^ (n - 1 - i) % n = 1 := by
    intro i hi
    rw [← Nat.pow_add, show i + (n - 1 - i) = n - 1 by omega, h1]
  have hne0 : ∀ i, i ≤ n - 1 → g ^ i % n ≠ 0 := by
    intro i hi h0
    have := hinv i hi
    rw [Nat.mul_mod, h0, Nat.zero_mul, Nat.zero_mod] at this
    omega
  let l := (List.range (n - 1)).map fun i => g ^ i % n
  have hinj : ∀ i j, i < j → j < n - 1 → g ^ i % n ≠ g ^ j % n := by
    intro i j hij hj he
    refine hord (j - i) (by omega) (by omega) ?_
    have e : g ^ j = g ^ i * g ^ (j - i) := by rw [← Nat.pow_add]; congr 1; omega
    have h3 : g ^ (n - 1 - i) * (g ^ i % n) % n = g ^ (n - 1 - i) * (g ^ j % n) % n := by rw [he]
    rw [Nat.mul_mod_mod, Nat.mul_mod_mod, e, ← Nat.mul_assoc, Nat.mul_comm (g ^ (n - 1 - i)), hinv i (by omega), Nat.mul_mod, hinv i (by omega), Nat.one_mul, Nat.mod_mod] at h3
    exact h3.symm
  have hnodup : l.Nodup := by
    rw [List.nodup_iff_pairwise_ne, List.pairwise_map]
    have hr : (List.range (n - 1)).Pairwise (· < ·) := List.pairwise_lt_range
    exact hr.imp_of_mem fun {i j} _ hj hij => hinj i j hij (List.mem_range.1 hj)
  have hsub : ∀ x ∈ l, x ∈ List.range' 1 (n - 1) := by
    intro x hx
    obtain ⟨i, hi, rfl⟩ := List.mem_map.1 hx
    have hi := List.mem_range.1 hi
    have := hne0 i (by omega)
    have := Nat.mod_lt (g ^ i) (show 0 < n by omega)
    rw [List.mem_range'_1]
    omega
  have hperm := perm_of_sub l (List.range' 1 (n - 1)) hnodup hsub (by simp [l])
  obtain ⟨p, hp, hpn, _⟩ := least_factor n hn
  by_cases hpe : p = n
  · exact hpe ▸ hp
  · exfalso
    have hple := Nat.le_of_dvd (by omega) hpn
    have hp2 := hp.1
    have hmem : p ∈ l := hperm.symm.subset (by rw [List.mem_range'_1]; omega)
    obtain ⟨i, hi, he⟩ := List.mem_map.1 hmem
    have hi := List.mem_range.1 hi
    have h4 := hinv i (by omega)
    rw [Nat.mul_mod, he] at h4
    have h5 : p ∣ p * (g ^ (n - 1 - i) % n) % n := (Nat.dvd_mod_iff hpn).2 ⟨_, rfl⟩
    rw [h4] at h5
    have := Nat.le_of_dvd (by omega) h5
    omega

/-- A power modulo n, by squaring. -/
def powm (n : Nat) : Nat → Nat → Nat → Nat
  | 0, _, _ => 1 % n
  | f + 1, a, e => if e % 2 = 1 then a * powm n f (a * a % n) (e / 2) % n else powm n f (a * a % n) (e / 2)

theorem powm_eq (n : Nat) : ∀ (f a e : Nat), e < 2 ^ f → powm n f a e = a ^ e % n
  | 0, a, e, h => by
    rw [Nat.pow_zero] at h
    obtain rfl : e = 0 := by omega
    rw [powm, Nat.pow_zero]
  | f + 1, a, e, h => by
    have h2 : e / 2 < 2 ^ f := by rw [Nat.pow_succ] at h; omega
    rw [powm, powm_eq n f _ _ h2]
    split
    · rename_i ho
      have e1 : a ^ e = a * (a * a) ^ (e / 2) := by
        conv => lhs; rw [← Nat.div_add_mod e 2, ho]
        rw [Nat.pow_succ, Nat.pow_mul, Nat.mul_comm, Nat.pow_two]
      rw [e1, Nat.mul_mod, Nat.mod_mod, ← Nat.pow_mod, ← Nat.mul_mod]
    · rename_i ho
      have e1 : a ^ e = (a * a) ^ (e / 2) := by
        conv => lhs; rw [← Nat.div_add_mod e 2, show e % 2 = 0 by omega]
        rw [Nat.add_zero, Nat.pow_mul, Nat.pow_two]
      rw [e1, ← Nat.pow_mod]

theorem by_two_three {p g a b : Nat} (hp : 2 ≤ p) (hlt : p < 2 ^ 63) (e : p - 1 = 2 ^ a * 3 ^ b) (c1 : powm p 63 g (p - 1) = 1) (c2 : powm p 63 g ((p - 1) / 2) ≠ 1) (c3 : powm p 63 g ((p - 1) / 3) ≠ 1) : Prime p := by
  rw [powm_eq _ _ _ _ (by omega)] at c1 c2 c3
  refine lucas hp c1 fun r hr hd => ?_
  rw [e] at hd
  have two : ∀ r, Prime r → r ∣ 2 → r = 2 := fun r hr hd => by
    have := Nat.le_of_dvd (by omega) hd; have := hr.1; omega
  have three : ∀ r, Prime r → r ∣ 3 → r = 3 := fun r hr hd => by
    have h1 := Nat.le_of_dvd (by omega) hd; have h2 := hr.1
    rcases Nat.lt_or_ge r 3 with h | h
    · obtain rfl : r = 2 := by omega
      exact absurd hd (by decide)
    · omega
  rcases euclid hr hd with h | h
  · obtain rfl := two r hr (dvd_pow hr h)
    exact c2
  · obtain rfl := three r hr (dvd_pow hr h)
    exact c3

/-- A prime between 2^62 and 2^63. -/
theorem great_prime : Prime 6566248256706183169 :=
  by_two_three (g := 7) (a := 53) (b := 6) (by decide) (by decide) (by decide) (by decide +kernel) (by decide +kernel) (by decide +kernel)
end Go.Proofs.YtpphfeinmmmckaaDoor.Nt
