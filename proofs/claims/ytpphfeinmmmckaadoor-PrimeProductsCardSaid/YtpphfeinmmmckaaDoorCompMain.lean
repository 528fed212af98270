/-
  Plain: a composite number up to a bound fails one of the strong tests, if the closed checks over small primes hold.
-/
import Derived.Test.YtpphfeinmmmckaaDoorComp
namespace Go.Proofs.YtpphfeinmmmckaaDoor
open Nt

theorem two_split : ∀ (x : Nat), 0 < x → ∃ e m, x = 2 ^ e * (2 * m + 1) := by
  intro x
  induction x using Nat.strongRecOn with
  | _ x ih =>
    intro hx
    by_cases h : x % 2 = 1
    · exact ⟨0, x / 2, by rw [Nat.pow_zero, Nat.one_mul]; omega⟩
    · obtain ⟨e, m, he⟩ := ih (x / 2) (by omega) (by omega)
      exact ⟨e + 1, m, by rw [Nat.pow_succ, Nat.mul_right_comm, ← he]; omega⟩

theorem neg_mod {n p x : Nat} (hn : 2 ≤ n) (hp : 2 ≤ p) (hd : p ∣ n) (h : x % n = n - 1) : x % p = p - 1 := by
  have h1 : n ∣ x + 1 := by
    refine Nat.dvd_of_mod_eq_zero ?_
    rw [Nat.add_mod, h, Nat.mod_eq_of_lt (show 1 < n by omega), show n - 1 + 1 = n by omega, Nat.mod_self]
  obtain ⟨k, hk⟩ := Nat.dvd_trans hd h1
  have h2 : x = p * k - 1 := by omega
  have hk0 : 1 ≤ k := by
    rcases k with _ | k
    · omega
    · omega
  obtain ⟨j, rfl⟩ : ∃ j, k = j + 1 := ⟨k - 1, by omega⟩
  have h3 : x = p - 1 + p * j := by rw [h2, Nat.mul_add]; omega
  rw [h3, Nat.add_mul_mod_self_left, Nat.mod_eq_of_lt (by omega)]

theorem odd_pow_neg {p x c : Nat} (hp : 2 ≤ p) (hx : x % p = p - 1) (hc : c % 2 = 1) : x ^ c % p = p - 1 := by
  have h1 := minus_one_sq hp hx
  have h2 : (x * x) ^ (c / 2) % p = 1 % p := by
    rw [Nat.pow_mod, h1, Nat.one_pow]
  have e : x ^ c = (x * x) ^ (c / 2) * x := by
    conv => lhs; rw [← Nat.div_add_mod c 2, hc]
    rw [Nat.pow_succ, Nat.pow_mul, Nat.pow_two]
  rw [e, Nat.mul_mod, h2, ← Nat.mul_mod, Nat.one_mul, hx]

/-- What n's tests say of base b, at p: the quadratic character is not 1 just if the test is passed at p's own level. -/
theorem char_level {n p b s d e d' : Nat} (hn : 2 ≤ n) (hp : Prime p) (hp3 : 3 ≤ p) (hd : p ∣ n) (hb : ¬ p ∣ b)
    (hsplit : p - 1 = 2 ^ e * d') (he : 1 ≤ e) (hdd : d' ∣ d) (hodd : d % 2 = 1)
    (ht : b ^ d % n = 1 ∨ ∃ i, i < s ∧ b ^ (d * 2 ^ i) % n = n - 1) :
    (b ^ ((p - 1) / 2) % p ≠ 1 ↔ b ^ (d * 2 ^ (e - 1)) % n = n - 1) ∧ (∀ i, b ^ (d * 2 ^ i) % n = n - 1 → i < e) := by
  have hone : 1 % p = 1 := Nat.mod_eq_of_lt (by omega)
  obtain ⟨c, hc⟩ := hdd
  have hcodd : c % 2 = 1 := by
    rw [hc] at hodd
    rcases Nat.mod_two_eq_zero_or_one c with h | h
    · rw [Nat.mul_mod, h, Nat.mul_zero] at hodd; simp at hodd
    · exact h
  have hhalf : (p - 1) / 2 = 2 ^ (e - 1) * d' := by
    obtain ⟨e', rfl⟩ : ∃ e', e = e' + 1 := ⟨e - 1, by omega⟩
    rw [hsplit, Nat.pow_succ, Nat.mul_right_comm, Nat.mul_div_cancel _ (by omega)]; rfl
  have hpow : b ^ (d * 2 ^ (e - 1)) = (b ^ ((p - 1) / 2)) ^ c := by
    rw [← Nat.pow_mul, hhalf, hc]
    congr 1
    simp only [Nat.mul_comm, Nat.mul_left_comm, Nat.mul_assoc]
  have hf := fermat hp hb
  have hchi : b ^ ((p - 1) / 2) % p = 1 ∨ b ^ ((p - 1) / 2) % p = p - 1 := by
    refine sq_one hp (Nat.mod_lt _ (by omega)) ?_
    rw [← Nat.mul_mod, ← Nat.pow_add]
    have : (p - 1) / 2 + (p - 1) / 2 = p - 1 := by
      have : (p - 1) % 2 = 0 := by
        obtain ⟨e', rfl⟩ : ∃ e', e = e' + 1 := ⟨e - 1, by omega⟩
        rw [hsplit, Nat.pow_succ, Nat.mul_right_comm, Nat.mul_mod_left]
      omega
    rw [this, hf]
  have htop : b ^ (d * 2 ^ e) % p = 1 % p := by
    have : d * 2 ^ e = (p - 1) * c := by rw [hsplit, hc]; simp only [Nat.mul_comm, Nat.mul_left_comm, Nat.mul_assoc]
    rw [this]
    exact pow_mul_one (by rw [hf, hone])
  have hlev : ∀ i, b ^ (d * 2 ^ i) % n = n - 1 → i < e := by
    intro i hi
    have h1 := neg_mod hn (by omega) hd hi
    rcases Nat.lt_or_ge i e with h2 | h2
    · exact h2
    · have e1 : d * 2 ^ i = d * 2 ^ e * 2 ^ (i - e) := by rw [Nat.mul_assoc, ← Nat.pow_add]; congr 2; omega
      rw [e1, pow_mul_one htop, hone] at h1
      clear ht
      omega
  refine ⟨⟨fun hne => ?_, fun hi heq => ?_⟩, hlev⟩
  · have hneg : b ^ ((p - 1) / 2) % p = p - 1 := by rcases hchi with h | h; exact absurd h hne; exact h
    have h5 : b ^ (d * 2 ^ (e - 1)) % p = p - 1 := by rw [hpow]; exact odd_pow_neg (by omega) hneg hcodd
    rcases ht with h1 | ⟨i, _, h2⟩
    · exfalso
      have h3 : b ^ d % p = 1 % p := by rw [hone]; have := mod_of_dvd hd (show b ^ d % n = 1 % n by rw [h1, Nat.mod_eq_of_lt (by omega)]); rw [this, hone]
      rw [pow_mul_one h3, hone] at h5
      omega
    · have h3 := hlev i h2
      rcases Nat.lt_or_ge i (e - 1) with h4 | h4
      · exfalso
        have h6 := minus_one_sq (by omega) (neg_mod hn (by omega) hd h2)
        rw [← Nat.pow_two, ← Nat.pow_mul, Nat.mul_assoc, ← Nat.pow_succ] at h6
        have e1 : d * 2 ^ (e - 1) = d * 2 ^ (i + 1) * 2 ^ (e - 1 - (i + 1)) := by rw [Nat.mul_assoc, ← Nat.pow_add]; congr 2; omega
        rw [e1, pow_mul_one (by rw [h6, hone]), hone] at h5
        omega
      · obtain rfl : i = e - 1 := by omega
        exact h2
  · have h1 := neg_mod hn (by omega) hd hi
    rw [hpow, Nat.pow_mod, heq, Nat.one_pow, hone] at h1
    clear ht
    omega

/-- The odd part of p - 1 divides that of n - 1. -/
theorem odd_part {x n s d e m : Nat} (hx : x = 2 ^ e * (2 * m + 1)) (hd : x ∣ n) (hn : n = 2 ^ s * d) : (2 * m + 1) ∣ d := by
  have h1 : (2 * m + 1) ∣ 2 ^ s * d := by rw [← hn]; exact Nat.dvd_trans ⟨2 ^ e, by rw [hx, Nat.mul_comm]⟩ hd
  have hc : Nat.Coprime (2 * m + 1) (2 ^ s) := by
    refine Nat.Coprime.pow_right s ?_
    show Nat.gcd (2 * m + 1) 2 = 1
    rw [Nat.gcd_comm, Nat.gcd_rec, show (2 * m + 1) % 2 = 1 by omega]; simp
  exact hc.dvd_of_dvd_mul_left h1

theorem full_nonres {p : Nat} (hp3 : 3 ≤ p) (hf : Full p) : ∃ b ∈ baseL, b ^ ((p - 1) / 2) % p ≠ 1 := by
  by_cases h : ∃ b ∈ baseL, b ^ ((p - 1) / 2) % p ≠ 1
  · exact h
  · exfalso
    have h1 := hf ((p - 1) / 2) fun b hb => by
      by_cases h2 : b ^ ((p - 1) / 2) % p = 1
      · exact h2
      · exact absurd ⟨b, hb, h2⟩ h
    have := Nat.le_of_dvd (by omega) h1
    omega

/-- Two primes of one such n have one signature. -/
theorem sig_same {n p q s d : Nat} (hn : 2 ≤ n) (hp : Prime p) (hq : Prime q) (hp3 : 38 ≤ p) (hq3 : 38 ≤ q) (hpn : p ∣ n) (hqn : q ∣ n) (hfp : Full p) (hfq : Full q)
    (hnd : n - 1 = 2 ^ s * d) (hodd : d % 2 = 1) (hfer : ∀ b ∈ baseL, b ^ (n - 1) % n = 1)
    (ht : ∀ b ∈ baseL, b ^ d % n = 1 ∨ ∃ i, i < s ∧ b ^ (d * 2 ^ i) % n = n - 1) : sigL baseL p = sigL baseL q := by
  have hsmall : ∀ b ∈ baseL, b < 38 ∧ 2 ≤ b := by decide
  have hnb : ∀ r, Prime r → 38 ≤ r → ∀ b ∈ baseL, ¬ r ∣ b := fun r _ hr b hb hd => by
    have := Nat.le_of_dvd (by have := hsmall b hb; omega) hd
    have := hsmall b hb
    omega
  have hdvd : ∀ r, Prime r → r ∣ n → Full r → (r - 1) ∣ (n - 1) := fun r hr hrn hf => hf _ fun b hb => by
    have h1 := mod_of_dvd hrn (show b ^ (n - 1) % n = 1 % n by rw [hfer b hb, Nat.mod_eq_of_lt (by omega)])
    rw [h1, Nat.mod_eq_of_lt (by have := hr.1; omega)]
  have lev : ∀ r, Prime r → 38 ≤ r → r ∣ n → Full r → ∃ e, 1 ≤ e ∧ (∀ b ∈ baseL, (b ^ ((r - 1) / 2) % r ≠ 1 ↔ b ^ (d * 2 ^ (e - 1)) % n = n - 1) ∧ (∀ i, b ^ (d * 2 ^ i) % n = n - 1 → i < e)) := by
    intro r hr hr3 hrn hf
    obtain ⟨e, m, he⟩ := two_split (r - 1) (by omega)
    have he1 : 1 ≤ e := by
      rcases e with _ | e
      · exfalso
        rw [Nat.pow_zero, Nat.one_mul] at he
        have h2 : 2 ∣ r := ⟨m + 1, by omega⟩
        rcases hr.2 2 h2 with h | h <;> omega
      · omega
    refine ⟨e, he1, fun b hb => ?_⟩
    exact char_level (s := s) hn hr (by omega) hrn (hnb r hr hr3 b hb) he he1 (odd_part he (hdvd r hr hrn hf) hnd) hodd (ht b hb)
  obtain ⟨e, he1, he⟩ := lev p hp hp3 hpn hfp
  obtain ⟨f, hf1, hf⟩ := lev q hq hq3 hqn hfq
  obtain ⟨b, hb, hne⟩ := full_nonres (by omega) hfp
  obtain ⟨b', hb', hne'⟩ := full_nonres (by omega) hfq
  have h1 := (hf b hb).2 _ ((he b hb).1.1 hne)
  have h2 := (he b' hb').2 _ ((hf b' hb').1.1 hne')
  obtain rfl : e = f := by omega
  refine sigL_eq baseL fun b hb => ?_
  have h3 := (he b hb).1
  have h4 := (hf b hb).1
  constructor
  · intro h5
    by_cases h6 : b ^ ((q - 1) / 2) % q = 1
    · exact h6
    · exact absurd h5 (h3.2 (h4.1 h6))
  · intro h5
    by_cases h6 : b ^ ((p - 1) / 2) % p = 1
    · exact h6
    · exact absurd h5 (h4.2 (h3.1 h6))

theorem small_primes : ∀ p : Fin 41, 2 ≤ p.val → (∀ d : Fin 41, 2 ≤ d.val → d.val * d.val ≤ p.val → p.val % d.val ≠ 0) → ∃ k : Fin 12, p.val = baseAt k.val := by decide +kernel

/-- The closed checks, as one statement. -/
structure Checks (F : Nat → Bool) (B R : Nat) : Prop where
  root : B < R * R
  full : ∀ p, Prime p → 41 ≤ p → p < R → Full p ∧ wief p = true ∧ (∀ q, Prime q → (∀ b ∈ baseL, q ∣ b ^ (p - 1) - 1) → q < R)
  pairs : ∀ p q, Prime p → Prime q → 41 ≤ p → p < q → p * (q * q) ≤ B → sigL baseL p = sigL baseL q → multOk F B p q = true

/-- A composite number up to B fails. -/
theorem comp_fails {F : Nat → Bool} {B R n odd twos : Nat} (C : Checks F B R) (hF : ∀ n, F n = true → ∃ b ∈ baseL, b ^ (n - 1) % n ≠ 1) (hn : 2 ≤ n) (hB : n ≤ B) (hcomp : ¬ Prime n)
    (hno : ∀ j, j < 12 → n % baseAt j ≠ 0) (ht : 1 ≤ twos) (hsplit : n - 1 = 2 ^ twos * odd) (hodd : odd % 2 = 1) : strongs n odd twos = false := by
  rcases hs : strongs n odd twos with _ | _
  · rfl
  exfalso
  have hst : ∀ b ∈ baseL, strong n odd twos b = true := by
    intro b hb
    obtain ⟨k, hk, rfl⟩ := baseL_of b hb
    unfold strongs at hs
    rw [List.all_eq_true] at hs
    exact hs k (List.mem_range.2 hk)
  have hfer : ∀ b ∈ baseL, b ^ (n - 1) % n = 1 := fun b hb => strong_fermat hn ht hsplit (hst b hb)
  have htt : ∀ b ∈ baseL, b ^ odd % n = 1 ∨ ∃ i, i < twos ∧ b ^ (odd * 2 ^ i) % n = n - 1 := fun b hb => strong_spec ht (hst b hb)
  have h41 : ∀ p, Prime p → p ∣ n → 41 ≤ p := by
    intro p hp hd
    rcases Nat.lt_or_ge p 41 with h | h
    · obtain ⟨k, hk⟩ := small_primes ⟨p, h⟩ hp.1 fun d h1 h2 => ((prime_iff p).1 hp).2 d.val h1 h2
      have hk' : p = baseAt k.val := hk
      exact absurd (Nat.mod_eq_zero_of_dvd (hk' ▸ hd)) (hno k.val k.isLt)
    · exact h
  have hRsq : ∀ x, x * x ≤ B → x < R := fun x hx => by
    rcases Nat.lt_or_ge x R with h | h
    · exact h
    · have := Nat.mul_le_mul h h
      have := C.root
      omega
  obtain ⟨p, hp, hpn, hmin⟩ := least_factor n hn
  obtain ⟨m, hm⟩ := hpn
  have hpn : p ∣ n := ⟨m, hm⟩
  have hp41 := h41 p hp hpn
  have hm2 : 2 ≤ m := by
    rcases m with _ | _ | m
    · simp at hm; omega
    · exfalso; apply hcomp; rw [hm, Nat.mul_one]; exact hp
    · omega
  have hmn : m ∣ n := ⟨p, by rw [hm, Nat.mul_comm]⟩
  obtain ⟨q, hq, hqm, hqmin⟩ := least_factor m hm2
  obtain ⟨c, hc⟩ := hqm
  have hqm : q ∣ m := ⟨c, hc⟩
  have hqn : q ∣ n := Nat.dvd_trans hqm hmn
  have hpq : p ≤ q := hmin q hq.1 hqn
  have hqm' : q ≤ m := Nat.le_of_dvd (by omega) hqm
  have hpR : p < R := hRsq p (by
    have : p * p ≤ p * m := Nat.mul_le_mul_left _ (by omega)
    omega)
  obtain ⟨hfp, hwp, hgp⟩ := C.full p hp hp41 hpR
  have hdvd : ∀ r, Prime r → r ∣ n → Full r → (r - 1) ∣ (n - 1) := fun r hr hrn hf => hf _ fun b hb => by
    have h1 := mod_of_dvd hrn (show b ^ (n - 1) % n = 1 % n by rw [hfer b hb, Nat.mod_eq_of_lt (by omega)])
    rw [h1, Nat.mod_eq_of_lt (by have := hr.1; omega)]
  have hnb : ∀ r, Prime r → r ∣ n → ∀ b ∈ baseL, ¬ r ∣ b := fun r hr hrn b hb hd => by
    have hsmall : ∀ b ∈ baseL, b < 38 ∧ 2 ≤ b := by decide
    have := Nat.le_of_dvd (by have := hsmall b hb; omega) hd
    have := hsmall b hb
    have := h41 r hr hrn
    omega
  by_cases heq : p = q
  · -- a square
    subst heq
    have hsq : p * p ∣ n := ⟨c, by rw [hm, hc, Nat.mul_assoc]⟩
    have h1p : 1 % (p * p) = 1 := Nat.mod_eq_of_lt (by have := Nat.mul_le_mul hp.1 hp.1; omega)
    have key : ∀ b ∈ baseL, b ^ (p - 1) % (p * p) = 1 := by
      intro b hb
      have h1 := mod_of_dvd hsq (show b ^ (n - 1) % n = 1 % n by rw [hfer b hb, Nat.mod_eq_of_lt (by omega)])
      have h2 := pow_sq hp (hnb p hp hpn b hb)
      have h3 := pow_gcd _ _ h1 h2
      have h4 : Nat.gcd (n - 1) ((p - 1) * p) ∣ p - 1 := by
        have hcop : Nat.Coprime (Nat.gcd (n - 1) ((p - 1) * p)) p := by
          rw [Nat.Coprime, Nat.gcd_comm]
          refine prime_coprime hp fun hd => ?_
          have h5 : p ∣ n - 1 := Nat.dvd_trans hd (Nat.gcd_dvd_left _ _)
          have h6 : p ∣ n - (n - 1) := Nat.dvd_sub hpn h5
          rw [show n - (n - 1) = 1 by omega] at h6
          have := Nat.le_of_dvd (by omega) h6
          omega
        exact hcop.dvd_of_dvd_mul_right (Nat.gcd_dvd_right _ _)
      obtain ⟨k, hk⟩ := h4
      have h5 := pow_mul_one (k := k) h3
      rw [← hk, h1p] at h5
      exact h5
    rcases wief_spec hwp with h | h
    · exact h (key 2 (by decide))
    · exact h (key 3 (by decide))
  · have hlt : p < q := by omega
    rcases Nat.lt_or_ge c 2 with hc2 | hc2
    · -- two primes
      have hc1 : c = 1 := by
        rcases c with _ | c
        · simp at hc; omega
        · omega
      rw [hc1, Nat.mul_one] at hc
      subst hc
      have e : n - 1 = (m - 1) * p + (p - 1) := by
        rw [hm, Nat.sub_mul, Nat.one_mul, Nat.mul_comm m]
        have : p * 1 ≤ p * m := Nat.mul_le_mul_left _ (by omega)
        omega
      rcases Nat.lt_or_ge m R with hmR | hmR
      · obtain ⟨hfm, _, _⟩ := C.full m hq (by omega) hmR
        have h1 := hdvd m hq hqn hfm
        rw [e] at h1
        have h2 : (m - 1) ∣ (p - 1) := (Nat.dvd_add_right (Nat.dvd_mul_right _ _)).1 h1
        have := Nat.le_of_dvd (by omega) h2
        omega
      · have h1m : 1 % m = 1 := Nat.mod_eq_of_lt (by omega)
        have key : ∀ b ∈ baseL, m ∣ b ^ (p - 1) - 1 := by
          intro b hb
          have hb2 : 2 ≤ b := (by decide : ∀ b ∈ baseL, 2 ≤ b) b hb
          have h1 := mod_of_dvd hqn (show b ^ (n - 1) % n = 1 % n by rw [hfer b hb, Nat.mod_eq_of_lt (by omega)])
          have h2 : b ^ ((m - 1) * p) % m = 1 % m := pow_mul_one (by rw [fermat hq (hnb m hq hqn b hb), h1m])
          rw [e, Nat.pow_add, Nat.mul_mod, h2, ← Nat.mul_mod, Nat.one_mul] at h1
          exact mod_eq_dvd h1 (Nat.pow_pos (by omega))
        have := hgp m hq key
        omega
    · -- three or more
      obtain ⟨r, hr, hrc, _⟩ := least_factor c hc2
      have hrm : r ∣ m := Nat.dvd_trans hrc ⟨q, by rw [hc, Nat.mul_comm]⟩
      have hqr : q ≤ r := hqmin r hr.1 hrm
      have hqc : q ≤ c := Nat.le_trans hqr (Nat.le_of_dvd (by omega) hrc)
      have hle : p * (q * q) ≤ B := by
        have h1 : p * (q * q) ≤ p * (q * c) := Nat.mul_le_mul_left _ (Nat.mul_le_mul_left _ hqc)
        rw [← hc, ← hm] at h1
        omega
      have hqR : q < R := hRsq q (by
        have : 1 * (q * q) ≤ p * (q * q) := Nat.mul_le_mul_right _ (by omega)
        omega)
      obtain ⟨hfq, _, _⟩ := C.full q hq (by omega) hqR
      have hsig := sig_same hn hp hq (by omega) (by omega) hpn hqn hfp hfq hsplit hodd hfer htt
      have hmult := C.pairs p q hp hq hp41 hlt hle hsig
      have en : n = p * q * c := by rw [hm, hc, Nat.mul_assoc]
      have hone : ∀ r, Prime r → 3 ≤ r → r ∣ n → Full r → n % (r - 1) = 1 := by
        intro r hr hr3 hrn hf
        obtain ⟨k, hk⟩ := hdvd r hr hrn hf
        have : n = 1 + (r - 1) * k := by omega
        rw [this, Nat.add_mul_mod_self_left, Nat.mod_eq_of_lt (by omega)]
      have hFn := mult_spec hmult (by rw [← en]; exact hB) (Nat.mul_pos (by omega) (by omega)) (by rw [← en]; exact hone q hq (by omega) hqn hfq) (by rw [← en]; exact hone p hp (by omega) hpn hfp)
      rw [← en] at hFn
      obtain ⟨b, hb, hne⟩ := hF n hFn
      exact hne (hfer b hb)
end Go.Proofs.YtpphfeinmmmckaaDoor
