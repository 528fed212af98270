/-
  Plain: prime.Is is right up to 2^40, by the closed checks.
-/
import Derived.Test.YtpphfeinmmmckaaDoorRight
import Derived.Test.YtpphfeinmmmckaaDoorBigA
import Derived.Test.YtpphfeinmmmckaaDoorBigB
import Derived.Test.YtpphfeinmmmckaaDoorBigC
import Derived.Test.YtpphfeinmmmckaaDoorBigD
import Derived.Test.YtpphfeinmmmckaaDoorBigE
import Derived.Test.YtpphfeinmmmckaaDoorBigG
namespace Go.Proofs.YtpphfeinmmmckaaDoor
open Nt

theorem prime_odd {p : Nat} (hp : Prime p) (h : 3 ≤ p) : p % 2 = 1 := by
  rcases Nat.mod_two_eq_zero_or_one p with h0 | h0
  · exfalso
    rcases hp.2 2 (Nat.dvd_of_mod_eq_zero h0) with h3 | h3 <;> omega
  · exact h0

theorem okR_all (p : Nat) (ho : p % 2 = 1) (h1 : 65537 ≤ p) (h2 : p < 163841) : okR ft ftP 1099511627776 (prodT 8 0) p = true := by
  rcases Nat.lt_or_ge p 81921 with h | h
  · exact rng_spec bigR0 p ho (by omega) (by omega)
  rcases Nat.lt_or_ge p 98305 with h' | h'
  · exact rng_spec bigR1 p ho (by omega) (by omega)
  rcases Nat.lt_or_ge p 131073 with h | h
  · exact rng_spec bigR2 p ho (by omega) (by omega)
  exact rng_spec bigR3 p ho (by omega) (by omega)

theorem okQ_all (p : Nat) (ho : p % 2 = 1) (h1 : 163841 ≤ p) (h2 : p < 1048577) : okQ ft ftP 1099511627776 (prodT 8 0) p = true := by
  rcases Nat.lt_or_ge p 219137 with h | h
  · exact rng_spec bigQ0 p ho (by omega) (by omega)
  rcases Nat.lt_or_ge p 274433 with h | h
  · exact rng_spec bigQ1 p ho (by omega) (by omega)
  rcases Nat.lt_or_ge p 329729 with h | h
  · exact rng_spec bigQ2 p ho (by omega) (by omega)
  rcases Nat.lt_or_ge p 385025 with h | h
  · exact rng_spec bigQ3 p ho (by omega) (by omega)
  rcases Nat.lt_or_ge p 440321 with h | h
  · exact rng_spec bigQ4 p ho (by omega) (by omega)
  rcases Nat.lt_or_ge p 495617 with h | h
  · exact rng_spec bigQ5 p ho (by omega) (by omega)
  rcases Nat.lt_or_ge p 550913 with h | h
  · exact rng_spec bigQ6 p ho (by omega) (by omega)
  rcases Nat.lt_or_ge p 606209 with h | h
  · exact rng_spec bigQ7 p ho (by omega) (by omega)
  rcases Nat.lt_or_ge p 661505 with h | h
  · exact rng_spec bigQ8 p ho (by omega) (by omega)
  rcases Nat.lt_or_ge p 716801 with h | h
  · exact rng_spec bigQ9 p ho (by omega) (by omega)
  rcases Nat.lt_or_ge p 772097 with h | h
  · exact rng_spec bigQ10 p ho (by omega) (by omega)
  rcases Nat.lt_or_ge p 827393 with h | h
  · exact rng_spec bigQ11 p ho (by omega) (by omega)
  rcases Nat.lt_or_ge p 882689 with h | h
  · exact rng_spec bigQ12 p ho (by omega) (by omega)
  rcases Nat.lt_or_ge p 937985 with h | h
  · exact rng_spec bigQ13 p ho (by omega) (by omega)
  rcases Nat.lt_or_ge p 993281 with h | h
  · exact rng_spec bigQ14 p ho (by omega) (by omega)
  exact rng_spec bigQ15 p ho (by omega) (by omega)

/-- The closed checks to 2^40, as one statement. -/
structure Checks2 (B R S : Nat) : Prop where
  root : B < R * R
  low : B < 41 * (S * S)
  wief : ∀ p, Prime p → 41 ≤ p → p < R → wief p = true
  two : ∀ p, Prime p → 41 ≤ p → p < R → TwoFail B p
  full : ∀ p, Prime p → 41 ≤ p → p < S → Full p
  pairs : ∀ p q c, Prime p → Prime q → 41 ≤ p → p < q → q < S → p * (q * q) ≤ B → sigL baseL p = sigL baseL q → p * q * c ≤ B → p * q * c % (q - 1) = 1 → p * q * c % (p - 1) = 1 →
    ∃ b ∈ baseL, b ^ (p * q * c - 1) % (p * q * c) ≠ 1

theorem checks2 : Checks2 1099511627776 1048577 163841 where
  root := by decide
  low := by decide
  wief := by
    intro p hp h1 h2
    rcases Nat.lt_or_ge p 65537 with h | h
    · exact (checks.full p hp h1 h).2.1
    rcases Nat.lt_or_ge p 163841 with h' | h'
    · exact (okR_two ft_ok ftP_eq ft_prime ft_all hp (by omega) (by omega) (ftP_not hp (by omega)) rfl (okR_all p (prime_odd hp (by omega)) h h')).2.1
    · exact (okQ_two ft_ok ftP_eq ft_prime ft_all hp (by omega) (by omega) (ftP_not hp (by omega)) rfl (okQ_all p (prime_odd hp (by omega)) h' h2)).1
  two := by
    intro p hp h1 h2
    rcases Nat.lt_or_ge p 65537 with h | h
    · intro q hq hpq hle hf
      obtain ⟨hfp, _, hgp⟩ := checks.full p hp h1 h
      obtain ⟨_, k2⟩ := two_pow hp hq (by omega) hpq hf
      have hq1 : 1 % q = 1 := Nat.mod_eq_of_lt (by omega)
      have hqR := hgp q hq fun b hb => mod_eq_dvd (by rw [k2 b hb, hq1]) (Nat.pow_pos (by have := (by decide : ∀ b ∈ baseL, 2 ≤ b) b hb; omega))
      have hdv := (checks.full q hq (by omega) hqR).1 (p - 1) k2
      have := Nat.le_of_dvd (by omega) hdv
      omega
    rcases Nat.lt_or_ge p 163841 with h' | h'
    · exact (okR_two ft_ok ftP_eq ft_prime ft_all hp (by omega) (by omega) (ftP_not hp (by omega)) rfl (okR_all p (prime_odd hp (by omega)) h h')).2.2
    · exact (okQ_two ft_ok ftP_eq ft_prime ft_all hp (by omega) (by omega) (ftP_not hp (by omega)) rfl (okQ_all p (prime_odd hp (by omega)) h' h2)).2
  full := by
    intro p hp h1 h2
    rcases Nat.lt_or_ge p 65537 with h | h
    · exact (checks.full p hp h1 h).1
    · exact (okR_two ft_ok ftP_eq ft_prime ft_all hp (by omega) (by omega) (ftP_not hp (by omega)) rfl (okR_all p (prime_odd hp (by omega)) h h2)).1
  pairs := by
    intro p q c hp hq h1 hpq hqS hB hsig hc e1 e2
    exact pairsAll_spec bigPairs hp hq h1 hpq (by omega) hB hsig hc e1 e2

/-- A composite number up to B fails. -/
theorem comp_fails2 {B R S n odd twos : Nat} (C : Checks2 B R S) (hn : 2 ≤ n) (hB : n ≤ B) (hcomp : ¬ Prime n)
    (hno : ∀ j, j < 12 → n % baseAt j ≠ 0) (ht : 1 ≤ twos) (hsplit : n - 1 = 2 ^ twos * odd) (hodd : odd % 2 = 1) : strongs n odd twos = false := by
  rcases hs : strongs n odd twos with _ | _
  · rfl
  exfalso
  have hst : ∀ b ∈ baseL, strong n odd twos b = true := by
    intro b hb
    obtain ⟨k, hk, rfl⟩ := baseL_of b hb
    unfold strongs at hs
    rw [List.all_eq_true] at hs
    exact hs k (List.mem_range.2 hk)
  have hfer : ∀ b ∈ baseL, b ^ (n - 1) % n = 1 := fun b hb => strong_fermat hn ht hsplit (hst b hb)
  have htt : ∀ b ∈ baseL, b ^ odd % n = 1 ∨ ∃ i, i < twos ∧ b ^ (odd * 2 ^ i) % n = n - 1 := fun b hb => strong_spec ht (hst b hb)
  have h41 : ∀ p, Prime p → p ∣ n → 41 ≤ p := by
    intro p hp hd
    rcases Nat.lt_or_ge p 41 with h | h
    · obtain ⟨k, hk⟩ := small_primes ⟨p, h⟩ hp.1 fun d h1 h2 => ((prime_iff p).1 hp).2 d.val h1 h2
      have hk' : p = baseAt k.val := hk
      exact absurd (Nat.mod_eq_zero_of_dvd (hk' ▸ hd)) (hno k.val k.isLt)
    · exact h
  have hRsq : ∀ x, x * x ≤ B → x < R := fun x hx => by
    rcases Nat.lt_or_ge x R with h | h
    · exact h
    · have := Nat.mul_le_mul h h
      have := C.root
      omega
  obtain ⟨p, hp, hpn, hmin⟩ := least_factor n hn
  obtain ⟨m, hm⟩ := hpn
  have hpn : p ∣ n := ⟨m, hm⟩
  have hp41 := h41 p hp hpn
  have hm2 : 2 ≤ m := by
    rcases m with _ | _ | m
    · simp at hm; omega
    · exfalso; apply hcomp; rw [hm, Nat.mul_one]; exact hp
    · omega
  have hmn : m ∣ n := ⟨p, by rw [hm, Nat.mul_comm]⟩
  obtain ⟨q, hq, hqm, hqmin⟩ := least_factor m hm2
  obtain ⟨c, hc⟩ := hqm
  have hqm : q ∣ m := ⟨c, hc⟩
  have hqn : q ∣ n := Nat.dvd_trans hqm hmn
  have hpq : p ≤ q := hmin q hq.1 hqn
  have hqm' : q ≤ m := Nat.le_of_dvd (by omega) hqm
  have hpR : p < R := hRsq p (by
    have : p * p ≤ p * m := Nat.mul_le_mul_left _ (by omega)
    omega)
  have hwp := C.wief p hp hp41 hpR
  have hdvd : ∀ r, Prime r → r ∣ n → Full r → (r - 1) ∣ (n - 1) := fun r hr hrn hf => hf _ fun b hb => by
    have h1 := mod_of_dvd hrn (show b ^ (n - 1) % n = 1 % n by rw [hfer b hb, Nat.mod_eq_of_lt (by omega)])
    rw [h1, Nat.mod_eq_of_lt (by have := hr.1; omega)]
  have hnb : ∀ r, Prime r → r ∣ n → ∀ b ∈ baseL, ¬ r ∣ b := fun r hr hrn => base_small (by have := h41 r hr hrn; omega)
  by_cases heq : p = q
  · -- a square
    subst heq
    have hsq : p * p ∣ n := ⟨c, by rw [hm, hc, Nat.mul_assoc]⟩
    have h1p : 1 % (p * p) = 1 := Nat.mod_eq_of_lt (by have := Nat.mul_le_mul hp.1 hp.1; omega)
    have key : ∀ b ∈ baseL, b ^ (p - 1) % (p * p) = 1 := by
      intro b hb
      have h1 := mod_of_dvd hsq (show b ^ (n - 1) % n = 1 % n by rw [hfer b hb, Nat.mod_eq_of_lt (by omega)])
      have h2 := pow_sq hp (hnb p hp hpn b hb)
      have h3 := pow_gcd _ _ h1 h2
      have h4 : Nat.gcd (n - 1) ((p - 1) * p) ∣ p - 1 := by
        have hcop : Nat.Coprime (Nat.gcd (n - 1) ((p - 1) * p)) p := by
          rw [Nat.Coprime, Nat.gcd_comm]
          refine prime_coprime hp fun hd => ?_
          have h5 : p ∣ n - 1 := Nat.dvd_trans hd (Nat.gcd_dvd_left _ _)
          have h6 : p ∣ n - (n - 1) := Nat.dvd_sub hpn h5
          rw [show n - (n - 1) = 1 by omega] at h6
          have := Nat.le_of_dvd (by omega) h6
          omega
        exact hcop.dvd_of_dvd_mul_right (Nat.gcd_dvd_right _ _)
      obtain ⟨k, hk⟩ := h4
      have h5 := pow_mul_one (k := k) h3
      rw [← hk, h1p] at h5
      exact h5
    rcases wief_spec hwp with h | h
    · exact h (key 2 (by decide))
    · exact h (key 3 (by decide))
  · have hlt : p < q := by omega
    rcases Nat.lt_or_ge c 2 with hc2 | hc2
    · -- two primes
      have hc1 : c = 1 := by
        rcases c with _ | c
        · simp at hc; omega
        · omega
      rw [hc1, Nat.mul_one] at hc
      subst hc
      exact C.two p hp hp41 hpR m hq hlt (by rw [← hm]; exact hB) (by rw [← hm]; exact hfer)
    · -- three or more
      obtain ⟨r, hr, hrc, _⟩ := least_factor c hc2
      have hrm : r ∣ m := Nat.dvd_trans hrc ⟨q, by rw [hc, Nat.mul_comm]⟩
      have hqr : q ≤ r := hqmin r hr.1 hrm
      have hqc : q ≤ c := Nat.le_trans hqr (Nat.le_of_dvd (by omega) hrc)
      have hle : p * (q * q) ≤ B := by
        have h1 : p * (q * q) ≤ p * (q * c) := Nat.mul_le_mul_left _ (Nat.mul_le_mul_left _ hqc)
        rw [← hc, ← hm] at h1
        omega
      have hqS : q < S := by
        rcases Nat.lt_or_ge q S with h | h
        · exact h
        · exfalso
          have h1 : S * S ≤ q * q := Nat.mul_le_mul h h
          have h2 : 41 * (S * S) ≤ p * (q * q) := Nat.mul_le_mul hp41 h1
          have := C.low
          omega
      have hfp := C.full p hp hp41 (by omega)
      have hfq := C.full q hq (by omega) hqS
      have hsig := sig_same hn hp hq (by omega) (by omega) hpn hqn hfp hfq hsplit hodd hfer htt
      have en : n = p * q * c := by rw [hm, hc, Nat.mul_assoc]
      have hone : ∀ r, Prime r → 3 ≤ r → r ∣ n → Full r → n % (r - 1) = 1 := by
        intro r hr hr3 hrn hf
        obtain ⟨k, hk⟩ := hdvd r hr hrn hf
        have : n = 1 + (r - 1) * k := by omega
        rw [this, Nat.add_mul_mod_self_left, Nat.mod_eq_of_lt (by omega)]
      obtain ⟨b, hb, hne⟩ := C.pairs p q c hp hq hp41 hlt hqS hle hsig (by rw [← en]; exact hB) (by rw [← en]; exact hone q hq (by omega) hqn hfq) (by rw [← en]; exact hone p hp (by omega) hpn hfp)
      rw [← en] at hne
      exact hne (hfer b hb)

/-- prime.Is is right up to 2^40. -/
theorem mrIs_far (n : Nat) (hn : n ≤ 1099511627776) : mrIs n = true ↔ Prime n := by
  constructor
  · intro h
    by_cases hp : Prime n
    · exact hp
    · exfalso
      unfold mrIs at h
      by_cases h2 : n < 2
      · rw [if_pos (.inl h2)] at h; cases h
      · rw [if_neg (by omega)] at h
        cases hf : (List.range 12).find? (fun k => n % baseAt k == 0) with
        | some k =>
          obtain ⟨a, b, _⟩ := find_some hf
          rw [hf] at h
          have h3 : n = baseAt k := by simpa using h
          exact hp (h3 ▸ base_is_prime k a)
        | none =>
          rw [hf] at h
          have hnn := List.find?_eq_none.1 hf
          have hno : ∀ j, j < 12 → n % baseAt j ≠ 0 := fun j hj => by have := hnn j (List.mem_range.2 hj); simpa using this
          have h0 : n % 2 ≠ 0 := hno 0 (by omega)
          obtain ⟨t1, _, _, t4, t5⟩ := ctz_even (n - 1) (by omega) (by omega) (by omega)
          have := comp_fails2 checks2 (by omega) hn hp hno t1 t4 t5
          have h' : strongs n ((n - 1) / 2 ^ Lib.ctz 64 (n - 1)) (Lib.ctz 64 (n - 1)) = true := h
          rw [this] at h'
          cases h'
  · intro hp
    exact mrIs_prime hp (by omega)
end Go.Proofs.YtpphfeinmmmckaaDoor
