/-
  Plain: what the strong tests of a number say at each of its primes: the quadratic characters of the bases, and the exponent that kills all bases.
-/
import Derived.Test.YtpphfeinmmmckaaDoorFrac
import Derived.Test.YtpphfeinmmmckaaDoorGauss
namespace Go.Proofs.YtpphfeinmmmckaaDoor
open Nt

/-- n passes all strong tests. -/
structure Pass (n s d : Nat) : Prop where
  two : 2 ≤ n
  split : n - 1 = 2 ^ s * d
  odd : d % 2 = 1
  one : 1 ≤ s
  test : ∀ b ∈ baseL, b ^ d % n = 1 ∨ ∃ i, i < s ∧ b ^ (d * 2 ^ i) % n = n - 1
  fer : ∀ b ∈ baseL, b ^ (n - 1) % n = 1

/-- v2 of p - 1 is e. -/
def V2 (p e : Nat) : Prop := ∃ m, p - 1 = 2 ^ e * (2 * m + 1)

theorem v2_ex {p : Nat} (h : 2 ≤ p) : ∃ e, V2 p e := two_split (p - 1) (by omega)

theorem v2_pos {p e : Nat} (ho : p % 2 = 1) (h : V2 p e) : 1 ≤ e := by
  obtain ⟨m, hm⟩ := h
  rcases e with _ | e
  · rw [Nat.pow_zero, Nat.one_mul] at hm; omega
  · omega

theorem v2_mod4 {p e : Nat} (hp : 2 ≤ p) (h : V2 p e) : (2 ≤ e → p % 4 = 1) ∧ (p % 4 = 1 → 2 ≤ e) ∧ (e = 1 → p % 4 = 3) := by
  obtain ⟨m, hm⟩ := h
  rcases e with _ | _ | e
  · rw [Nat.pow_zero, Nat.one_mul] at hm; exact ⟨fun h => by omega, fun h => by omega, fun h => by omega⟩
  · rw [Nat.zero_add, Nat.pow_one] at hm; exact ⟨fun h => by omega, fun h => by omega, fun _ => by omega⟩
  · have e1 : 2 ^ (e + 1 + 1) * (2 * m + 1) = 4 * (2 ^ e * (2 * m + 1)) := by
      have e2 : 2 ^ (e + 1 + 1) = 2 ^ e * 4 := by rw [Nat.pow_succ, Nat.pow_succ, Nat.mul_assoc]
      rw [e2, Nat.mul_assoc, Nat.mul_left_comm]
    rw [e1] at hm
    exact ⟨fun _ => by omega, fun _ => by omega, fun h => by omega⟩

theorem prime_is_odd {p : Nat} (hp : Prime p) (h : 3 ≤ p) : p % 2 = 1 := by
  rcases Nat.mod_two_eq_zero_or_one p with h0 | h0
  · exfalso
    rcases hp.2 2 (Nat.dvd_of_mod_eq_zero h0) with h3 | h3 <;> omega
  · exact h0

theorem base_lt {b : Nat} (hb : b ∈ baseL) : b < 38 ∧ 2 ≤ b := (by decide : ∀ b ∈ baseL, b < 38 ∧ 2 ≤ b) b hb
theorem base_not {p : Nat} (hp : 38 ≤ p) : ∀ b ∈ baseL, ¬ p ∣ b := fun b hb hd => by
  have h := base_lt hb
  have := Nat.le_of_dvd (by omega) hd
  omega

/-- The character is not 1 just if the test is passed at p's own level. -/
theorem level {n s d p e b : Nat} (H : Pass n s d) (hp : Prime p) (hp3 : 38 ≤ p) (hd : p ∣ n) (hv : V2 p e) (he : 1 ≤ e) (hb : b ∈ baseL) :
    (b ^ ((p - 1) / 2) % p ≠ 1 ↔ b ^ (d * 2 ^ (e - 1)) % n = n - 1) ∧ (∀ i, b ^ (d * 2 ^ i) % n = n - 1 → i < e) := by
  have hn := H.two
  have hodd := H.odd
  have hnb := base_not hp3 b hb
  have hone : 1 % p = 1 := Nat.mod_eq_of_lt (by omega)
  obtain ⟨m, hsplit⟩ := hv
  obtain ⟨d', hd'⟩ : ∃ d', d' = 2 * m + 1 := ⟨_, rfl⟩
  rw [← hd'] at hsplit
  have hd'o : d' % 2 = 1 := by omega
  have hhalf : (p - 1) / 2 = 2 ^ (e - 1) * d' := by
    obtain ⟨e', rfl⟩ : ∃ e', e = e' + 1 := ⟨e - 1, by omega⟩
    rw [hsplit, Nat.pow_succ, Nat.mul_right_comm, Nat.mul_div_cancel _ (by omega)]; rfl
  -- the common power
  have hpow : b ^ (d * 2 ^ (e - 1) * d') = (b ^ ((p - 1) / 2)) ^ d := by
    rw [← Nat.pow_mul, hhalf]
    congr 1
    simp only [Nat.mul_comm, Nat.mul_left_comm]
  have hf := fermat hp hnb
  have hchi : b ^ ((p - 1) / 2) % p = 1 ∨ b ^ ((p - 1) / 2) % p = p - 1 := by
    refine sq_one hp (Nat.mod_lt _ (by omega)) ?_
    rw [← Nat.mul_mod, ← Nat.pow_add]
    have : (p - 1) / 2 + (p - 1) / 2 = p - 1 := by
      have : (p - 1) % 2 = 0 := by
        obtain ⟨e', rfl⟩ : ∃ e', e = e' + 1 := ⟨e - 1, by omega⟩
        rw [hsplit, Nat.pow_succ, Nat.mul_right_comm, Nat.mul_mod_left]
      omega
    rw [this, hf]
  have htop : b ^ (d * 2 ^ e * d') % p = 1 % p := by
    have : d * 2 ^ e * d' = (p - 1) * d := by rw [hsplit]; simp only [Nat.mul_comm, Nat.mul_left_comm]
    rw [this]
    exact pow_mul_one (by rw [hf, hone])
  have hlev : ∀ i, b ^ (d * 2 ^ i) % n = n - 1 → i < e := by
    intro i hi
    have h1 := odd_pow_neg (by omega) (neg_mod hn (by omega) hd hi) hd'o
    rw [← Nat.pow_mul] at h1
    rcases Nat.lt_or_ge i e with h2 | h2
    · exact h2
    · have e1 : d * 2 ^ i * d' = d * 2 ^ e * d' * 2 ^ (i - e) := by
        have e2 : 2 ^ i = 2 ^ e * 2 ^ (i - e) := by rw [← Nat.pow_add]; congr 1; omega
        rw [e2]; ac_rfl
      rw [e1, pow_mul_one htop, hone] at h1
      omega
  refine ⟨⟨fun hne => ?_, fun hi heq => ?_⟩, hlev⟩
  · have hneg : b ^ ((p - 1) / 2) % p = p - 1 := by rcases hchi with h | h; exact absurd h hne; exact h
    have h5 : b ^ (d * 2 ^ (e - 1) * d') % p = p - 1 := by rw [hpow]; exact odd_pow_neg (by omega) hneg hodd
    rcases H.test b hb with h1 | ⟨i, _, h2⟩
    · exfalso
      have h3 : b ^ d % p = 1 % p := mod_of_dvd hd (show b ^ d % n = 1 % n by rw [h1, Nat.mod_eq_of_lt (by omega)])
      rw [Nat.mul_assoc, pow_mul_one h3, hone] at h5
      omega
    · have h3 := hlev i h2
      rcases Nat.lt_or_ge i (e - 1) with h4 | h4
      · exfalso
        have h6 := minus_one_sq (by omega) (neg_mod hn (by omega) hd h2)
        rw [← Nat.pow_two, ← Nat.pow_mul, Nat.mul_assoc, ← Nat.pow_succ] at h6
        have e1 : d * 2 ^ (e - 1) * d' = d * 2 ^ (i + 1) * (2 ^ (e - 1 - (i + 1)) * d') := by
          have e2 : 2 ^ (e - 1) = 2 ^ (i + 1) * 2 ^ (e - 1 - (i + 1)) := by rw [← Nat.pow_add]; congr 1; omega
          rw [e2]; ac_rfl
        rw [e1, pow_mul_one (by rw [h6, hone]), hone] at h5
        omega
      · obtain rfl : i = e - 1 := by omega
        exact h2
  · have h1 := odd_pow_neg (by omega) (neg_mod hn (by omega) hd hi) hd'o
    rw [← Nat.pow_mul, hpow, Nat.pow_mod, heq, Nat.one_pow, hone] at h1
    omega

/-- The characters of two primes of n at the same level are the same. -/
theorem chi_same {n s d p q e : Nat} (H : Pass n s d) (hp : Prime p) (hq : Prime q) (hp3 : 38 ≤ p) (hq3 : 38 ≤ q) (hpn : p ∣ n) (hqn : q ∣ n) (hvp : V2 p e) (hvq : V2 q e) :
    ∀ b ∈ baseL, gchi b p = gchi b q := by
  intro b hb
  have hep := v2_pos (prime_is_odd hp (by omega)) hvp
  have h1 := (level H hp hp3 hpn hvp hep hb).1
  have h2 := (level H hq hq3 hqn hvq hep hb).1
  have hb2 := base_lt hb
  have g1 := gauss hp (by omega) (base_not hp3 b hb) (by omega)
  have g2 := gauss hq (by omega) (base_not hq3 b hb) (by omega)
  by_cases h : b ^ (d * 2 ^ (e - 1)) % n = n - 1
  · have a1 := h1.2 h
    have a2 := h2.2 h
    have c1 : gchi b p ≠ true := fun hh => a1 (g1.2 hh)
    have c2 : gchi b q ≠ true := fun hh => a2 (g2.2 hh)
    rw [Bool.eq_false_iff.2 c1, Bool.eq_false_iff.2 c2]
  · have a1 : b ^ ((p - 1) / 2) % p = 1 := Decidable.byContradiction fun hh => h (h1.1 hh)
    have a2 : b ^ ((q - 1) / 2) % q = 1 := Decidable.byContradiction fun hh => h (h2.1 hh)
    rw [g1.1 a1, g2.1 a2]

/-- Where the level is greater all characters are 1. -/
theorem chi_one {n s d p q e f : Nat} (H : Pass n s d) (hp : Prime p) (hq : Prime q) (hp3 : 38 ≤ p) (hq3 : 38 ≤ q) (hpn : p ∣ n) (hqn : q ∣ n) (hvp : V2 p e) (hvq : V2 q f) (hef : e < f) :
    ∀ b ∈ baseL, gchi b q = true := by
  intro b hb
  have hep := v2_pos (prime_is_odd hp (by omega)) hvp
  have h1 := (level H hp hp3 hpn hvp hep hb).2
  have h2 := (level H hq hq3 hqn hvq (by omega) hb).1
  have hb2 := base_lt hb
  have g2 := gauss hq (by omega) (base_not hq3 b hb) (by omega)
  refine g2.1 (Decidable.byContradiction fun hh => ?_)
  have := h1 _ (h2.1 hh)
  omega

/-- All bases are killed by r modulo N. -/
def Kills (r N : Nat) : Prop := ∀ b ∈ baseL, b ^ r % N = 1

/-- At a prime of n: gcd(p - 1, n - 1) kills all bases. -/
theorem kills_prime {n s d p : Nat} (H : Pass n s d) (hp : Prime p) (hp3 : 38 ≤ p) (hd : p ∣ n) : Kills (Nat.gcd (p - 1) (n - 1)) p := by
  intro b hb
  have hone : 1 % p = 1 := Nat.mod_eq_of_lt (by omega)
  have h1 := mod_of_dvd hd (show b ^ (n - 1) % n = 1 % n by rw [H.fer b hb, Nat.mod_eq_of_lt (by have := H.two; omega)])
  have h2 := fermat hp (base_not hp3 b hb)
  have := pow_gcd (p - 1) (n - 1) (show b ^ (p - 1) % p = 1 % p by rw [h2, hone]) h1
  rw [this, hone]

theorem pass_odd {n s d : Nat} (H : Pass n s d) : n % 2 = 1 := by
  have h1 := H.split
  have h2 := H.one
  have h3 := H.two
  obtain ⟨t, rfl⟩ : ∃ t, s = t + 1 := ⟨s - 1, by omega⟩
  rw [Nat.pow_succ, Nat.mul_right_comm] at h1
  omega

theorem rank_even {n s d p : Nat} (H : Pass n s d) (hp : Prime p) (hp3 : 3 ≤ p) : Nat.gcd (p - 1) (n - 1) % 2 = 0 ∧ 1 ≤ Nat.gcd (p - 1) (n - 1) := by
  have h1 := prime_is_odd hp hp3
  have h2 := pass_odd H
  have h3 : 2 ∣ Nat.gcd (p - 1) (n - 1) := Nat.dvd_gcd ⟨(p - 1) / 2, by omega⟩ ⟨(n - 1) / 2, by omega⟩
  exact ⟨Nat.mod_eq_zero_of_dvd h3, Nat.gcd_pos_of_pos_left _ (by omega)⟩

/-- The number of fractions bounds the exponent. -/
theorem rank_bound {n s d p X f : Nat} {l : List Nat} (hl : ∀ p ∈ l, p ∈ baseL) (hln : l.Nodup) (H : Pass n s d) (hp : Prime p) (hp3 : 38 ≤ p) (hd : p ∣ n) (hX : 2 * (X * X) < p) (hX1 : 1 ≤ X) :
    2 * (fracs (fun p A => A / p) f l X X).length ≤ Nat.gcd (p - 1) (n - 1) := by
  obtain ⟨h1, h2⟩ := rank_even H hp (by omega)
  exact fracs_le (room_div l) hl hln (by omega) h2 h1 hX1 (fun x y hx hy => Nat.mul_le_mul hx hy) hX (kills_prime H hp hp3 hd) (few_prime hp h2)
end Go.Proofs.YtpphfeinmmmckaaDoor
