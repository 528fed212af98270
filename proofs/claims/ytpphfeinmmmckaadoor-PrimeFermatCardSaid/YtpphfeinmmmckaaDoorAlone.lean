/-
  Plain: no composite number below 2^63 passes the strong tests, from what the searches say (alonegen.py prints this text).
-/
import Derived.Test.YtpphfeinmmmckaaDoorXs
import Derived.Test.YtpphfeinmmmckaaDoorSb
import Derived.Test.YtpphfeinmmmckaaDoorCa
namespace Go.Proofs.YtpphfeinmmmckaaDoor
open Nt

/-- What the searches say. -/
structure Search : Prop where
  prods : ∀ x y s d : Nat, 2 ≤ x → 2 ≤ y → x < 2147483648 → y < 4294967296 → Pass (x * y) s d → (∀ p, Prime p → p ∣ x * y → 41 ≤ p) → False
  row : ∀ I, I % 2 = 1 → 3 ≤ I → I < 6684 → row2 I = true
  wlow : ∀ w, w < 4294967296 → Spcl w → kW w = true
  whigh : ∀ w, 4294967296 ≤ w → w < 274877906944 → Spcl w → kW5 w = true
  qmid : ∀ q, q < 3087007744 → Spcl q → kQ 4294967296 q = true
  qlow : ∀ q, q < 2147483648 → Spcl q → kQ5 q = true
  tri : ∀ p, p % 2 = 1 → 41 ≤ p → p < 65537 → ∃ rs W, (∀ e ∈ rs, e.1 ∈ ones ∧ e.2 = repD e.1.d (W / e.1.d + 2)) ∧ tri rs W 4294967296 (4294967296 / p) p = true
  half : ∀ y, y % 2 = 1 → (∀ l ∈ oddB, y % l ≠ 0) → 65537 ≤ y → y < 11863283 → kHalf y = true
  xs : ∀ u, Prime u → 65537 ≤ u → u < 478150656 → Spcl u → XP u
  sa : ∀ p, p % 2 = 1 → 41 ≤ p → p < 65537 → ∃ rs W, (∀ e ∈ rs, e.1 ∈ ones ∧ e.2 = repD e.1.d (W / e.1.d + 2)) ∧ sP rs W p = true
  sb : ∀ a0 m, a0 = 1 ∨ a0 = 3 ∨ a0 = 5 ∨ a0 = 7 → m < 2048 → ∃ rs, (∀ e ∈ rs, e.1 ∈ ones ∧ e.2 = repD e.1.d (1474720 / e.1.d + 2)) ∧ bucket rs 1474720 a0 m = true
  ca : ∀ p, p % 2 = 1 → 41 ≤ p → p < 46349 → ∃ rs W, (∀ e ∈ rs, e.1 ∈ ones ∧ e.2 = repD e.1.d (W / e.1.d + 2)) ∧ caP rs W p = true

/-- No number of three primes or more, the two least below 2^32 together, has p as its least prime. -/
theorem no_three2 {n s d p q c W wm Q : Nat} {rs : List (Grp × Nat)} (hrs : ∀ e ∈ rs, e.1 ∈ ones ∧ e.2 = repD e.1.d (W / e.1.d + 2)) (h : tri rs W wm Q p = true)
    (H : Pass n s d) (hn63 : n < 9223372036854775808) (hn : n = p * q * c) (hp : Prime p) (hq : Prime q) (hp3 : 41 ≤ p) (hpS : p < 65537) (hpq : p < q) (hqQ : q ≤ Q) (hc : 2 ≤ c) (hcq : ∀ u, Prime u → u ∣ c → q < u)
    (hwm : Prime c → c ≤ wm) (hQ : ∀ u, p * q * (u * u) < 9223372036854775808 → u ≤ Q) : False := by
  have hpn : p ∣ n := ⟨q * c, by rw [hn, Nat.mul_assoc]⟩
  have hqn : q ∣ n := ⟨p * c, by rw [hn]; ac_rfl⟩
  have hcn : c ∣ n := ⟨p * q, by rw [hn]; ac_rfl⟩
  have hpq0 : 0 < p * q := Nat.mul_pos (by omega) (by omega)
  unfold tri at h
  have h1 := fermat_not hp (by omega) h
  rw [Bool.and_eq_true, Bool.and_eq_true] at h1
  obtain ⟨hpl, hWb, h2⟩ := h1
  have hW : Q / 8 ≤ p / 8 + W := Nat.le_of_ble_eq_true hWb
  have en : ∀ x, Nat.succ (Nat.sub (Nat.div Q 8) (Nat.div x 8)) = Q / 8 - x / 8 + 1 := fun x => rfl
  have hp0 : ∀ l ∈ oddB, p % l ≠ 0 := fun l hl => by
    have := oddB_lt l hl
    exact prime_mod_ne hp this.1 (by omega)
  have hqk := two_kinds H hp hq hp3 (by omega) hpn hqn hpl
  have h3 := both_spec (u := q) hp0 hrs (by rw [en]; omega) h2 (by show p / 8 ≤ q / 8; omega) (by rw [en]; show q / 8 < p / 8 + (Q / 8 - p / 8 + 1); omega) hqk
  unfold pair at h3
  rw [ble_false (by omega), Bool.false_or] at h3
  have h4 := fermat_not hq (by omega) h3
  have h5 := ranksG_spec h4 H hq (by omega) hqn
  obtain ⟨r, hr⟩ : ∃ r, r = Nat.gcd (q - 1) (n - 1) := ⟨_, rfl⟩
  have hr1 := (rank_even H hq (by omega)).2
  rw [← hr] at h5 hr1
  have hrn : r ∣ n - 1 := by rw [hr]; exact Nat.gcd_dvd_right _ _
  unfold pairI at h5
  rw [force_eq, force_eq, force_eq, Bool.and_eq_true, lcmN_eq] at h5
  -- p - 1 divides n - 1
  have hpf : (p - 1) ∣ n - 1 := by
    have hf := (checks.full p hp hp3 hpS).1
    refine hf _ fun b hb => ?_
    have h1 := mod_of_dvd hpn (show b ^ (n - 1) % n = 1 % n by rw [H.fer b hb, Nat.mod_eq_of_lt (by have := H.two; omega)])
    rw [h1, Nat.mod_eq_of_lt (by omega)]
  have e1 : Nat.sub p 1 = p - 1 := rfl
  rw [e1] at h5
  obtain ⟨L, hL⟩ : ∃ L, L = Nat.lcm (p - 1) r := ⟨_, rfl⟩
  have hLn : L ∣ n - 1 := by rw [hL]; exact Nat.lcm_dvd hpf hrn
  have hL2 : 2 ≤ L := by
    have h6 : (p - 1) ∣ L := by rw [hL]; exact Nat.dvd_lcm_left _ _
    have h7 : 0 < L := by rw [hL]; exact Nat.lcm_pos (by omega) hr1
    have := Nat.le_of_dvd h7 h6
    omega
  rw [← hL] at h5
  obtain ⟨h6, h7⟩ := h5
  have ea : Nat.mul p q = p * q := rfl
  rw [ea] at h6 h7
  by_cases hcp : Prime c
  · -- three primes
    have hcwm := hwm hcp
    have hM : c ≤ least wm (Nat.div 9223372036854775808 (p * q)) := by
      have hle := (least_le wm (Nat.div 9223372036854775808 (p * q))).2.2
      have h8 : c ≤ 9223372036854775808 / (p * q) := by
        rw [Nat.le_div_iff_mul_le hpq0, Nat.mul_comm, ← hn]; omega
      rcases hle with h9 | h9
      · rw [h9]; exact hcwm
      · rw [h9]; exact h8
    have h8 := mulsQ_spec (m := c) h6 hL2 hM (by rw [← hn]; exact hLn) (by rw [← hn]; have := H.two; omega)
    have hqc := hcq c hcp (Nat.dvd_refl c)
    -- the exponent at c
    have hrc : Nat.gcd (c - 1) (n - 1) = Nat.gcd (c - 1) (p * q - 1) := by
      have := (two_rank (q := p * q) (w := c) (Nat.le_trans hp.1 (Nat.le_mul_of_pos_right _ (by omega))) hc).1
      rw [← hn] at this
      exact this
    rcases h8 with h8 | ⟨h11, h12⟩
    · unfold lastP at h8
      rw [ble_false (by omega), Bool.false_or, Bool.or_eq_true] at h8
      rcases h8 with h9 | h9
      · refine tst3_not h9 ?_
        have := kills_prime H hcp (by omega) hcn
        rw [hrc] at this
        exact this
      · have : Nat.mul (p * q) c = n := hn.symm
        rw [this] at h9
        exact sfail_not h9 H
    · have h12' : Nat.gcd (c - 1) (p * q - 1) < thrE16.c := h12
      obtain ⟨X, hX⟩ := thrL_ok thrE16 (by simp [thrL])
      have := thr_le hX H hcp (by omega) hcn h11
      omega
  · -- four primes or more
    obtain ⟨u, hu, ⟨m, hm⟩, hmin⟩ := least_factor c hc
    have huc : u ∣ c := ⟨m, hm⟩
    have hun : u ∣ n := Nat.dvd_trans huc hcn
    have hqu := hcq u hu huc
    have hm2 : 2 ≤ m := by
      rcases m with _ | _ | m
      · rw [Nat.mul_zero] at hm; omega
      · exfalso; apply hcp; rw [hm, Nat.zero_add, Nat.mul_one]; exact hu
      · omega
    have hum : u ≤ m := hmin m hm2 ⟨u, by rw [hm, Nat.mul_comm]⟩
    have hum2 : u < m := by
      rcases Nat.lt_or_ge u m with h8 | h8
      · exact h8
      · exfalso
        have : m = u := by omega
        refine no_square H hu (by omega) hn63 ⟨p * q, ?_⟩
        rw [hn, hm, this]; ac_rfl
    have hlt : p * q * (u * u) < 9223372036854775808 := by
      have h8 : p * q * (u * u) ≤ p * q * (u * m) := Nat.mul_le_mul_left _ (Nat.mul_le_mul_left _ hum)
      rw [← hm, ← hn] at h8
      omega
    have hltq : p * q * (q * q) < 9223372036854775808 := by
      have h8 : p * q * (q * q) ≤ p * q * (u * u) := Nat.mul_le_mul_left _ (Nat.mul_le_mul (by omega) (by omega))
      omega
    have e2 : Nat.mul (p * q) (Nat.mul q q) = p * q * (q * q) := rfl
    rw [e2, ble_false (by omega), Bool.false_or] at h7
    have huQ := hQ u hlt
    have hu32 : u < 2 ^ 32 := by
      rcases Nat.lt_or_ge u (2 ^ 32) with h8 | h8
      · exact h8
      · exfalso
        have h9 : 2 ^ 32 * 2 ^ 32 ≤ u * u := Nat.mul_le_mul h8 h8
        have h10 : 1 * (u * u) ≤ p * q * (u * u) := Nat.mul_le_mul_right _ hpq0
        omega
    have hub := ubN_spec hlt 32 hu32
    obtain ⟨Q', hQ'⟩ : ∃ Q', Q' = least Q (ubN (p * q) 32) := ⟨_, rfl⟩
    have huQ' : u ≤ Q' ∧ Q' ≤ Q := by
      have hle := least_le Q (ubN (p * q) 32)
      rw [hQ']
      refine ⟨?_, hle.1⟩
      rcases hle.2.2 with h8 | h8
      · rw [h8]; exact huQ
      · rw [h8]; omega
    have hQ8 : Q' / 8 ≤ Q / 8 := Nat.div_le_div_right huQ'.2
    rw [← hQ'] at h7
    have en' : Nat.succ (Nat.sub (Nat.div Q' 8) (Nat.div q 8)) = Q' / 8 - q / 8 + 1 := rfl
    have huk := two_kinds H hp hu hp3 (by omega) hpn hun hpl
    have h8 := both_spec (u := u) hp0 hrs (by rw [en']; omega) h7 (by show q / 8 ≤ u / 8; omega) (by rw [en']; show u / 8 < q / 8 + (Q' / 8 - q / 8 + 1); omega) huk
    unfold quad at h8
    have e3 : Nat.mul (p * q) (Nat.mul u u) = p * q * (u * u) := rfl
    rw [e3, ble_false (by omega), Bool.false_or, ble_false (by omega), Bool.false_or] at h8
    have h9 := fermat_not hu (by omega) h8
    have h10 := ranksG_spec h9 H hu (by omega) hun
    obtain ⟨x, hx⟩ : ∃ x, x = Nat.gcd (u - 1) (n - 1) := ⟨_, rfl⟩
    have hx1 := (rank_even H hu (by omega)).2
    rw [← hx] at h10 hx1
    rw [force_eq, force_eq, lcmN_eq] at h10
    have hLn' : Nat.lcm L x ∣ n - 1 := Nat.lcm_dvd hLn (by rw [hx]; exact Nat.gcd_dvd_right _ _)
    have hL2' : 2 ≤ Nat.lcm L x := by
      have h11 : L ∣ Nat.lcm L x := Nat.dvd_lcm_left _ _
      have := Nat.le_of_dvd (Nat.lcm_pos (by omega) hx1) h11
      omega
    have eb : Nat.mul (p * q) u = p * q * u := rfl
    rw [eb] at h10
    have hnm : n = p * q * u * m := by rw [hn, hm]; ac_rfl
    have h12 := muls_spec (m := m) h10 hL2' (by
      show m ≤ 9223372036854775808 / (p * q * u)
      rw [Nat.le_div_iff_mul_le (Nat.mul_pos hpq0 (by omega)), Nat.mul_comm, ← hnm]; omega) (by rw [← hnm]; exact hLn') (by rw [← hnm]; have := H.two; omega)
    unfold lastM at h12
    rw [ble_false (by omega), Bool.false_or] at h12
    have : Nat.mul (p * q * u) m = n := hnm.symm
    rw [this] at h12
    exact sfail_not h12 H

theorem plain_of_tri {rs : List (Grp × Nat)} {W wm Q p : Nat} (h : tri rs W wm Q p = true) (hp : Prime p) (hp41 : 41 ≤ p) : plain p = true := by
  unfold tri at h
  have h1 := fermat_not hp (by omega) h
  rw [Bool.and_eq_true] at h1
  exact h1.1

theorem plain_not {p : Nat} (h : plain p = true) : ¬ Spcl p := by
  rintro ⟨h8, hl⟩
  unfold plain at h
  have a1 : Nat.beq (Nat.mod p 4) 3 = false := by
    have : Nat.mod p 4 = 1 := by show p % 4 = 1; omega
    rw [this]; rfl
  have a2 : Nat.beq (Nat.mod p 8) 1 = true := by
    have : Nat.mod p 8 = 1 := h8
    rw [this]; rfl
  have a3 : (oddB.all fun l => legQ l p) = true := List.all_eq_true.2 fun l hl' => by rw [legQ_eq hl' (hl l hl').1]; exact (hl l hl').2
  rw [a1, a2, a3] at h
  cases h

/-- Two primes of one number: one is special, or their characters are the same. -/
theorem kinds {n s d p q : Nat} (H : Pass n s d) (hp : Prime p) (hq : Prime q) (hp41 : 41 ≤ p) (hq41 : 41 ≤ q) (hpn : p ∣ n) (hqn : q ∣ n) :
    Spcl q ∨ Spcl p ∨ (q % 8 = p % 8 ∧ ∀ l ∈ oddB, q % l ≠ 0 ∧ leg l (q % l) = leg l (p % l)) := by
  obtain ⟨e, he⟩ := v2_ex hp.1
  obtain ⟨f, hf⟩ := v2_ex hq.1
  have hpo := prime_is_odd hp (by omega)
  have hqo := prime_is_odd hq (by omega)
  have he1 := v2_pos hpo he
  have hf1 := v2_pos hqo hf
  rcases Nat.lt_trichotomy e f with h | h | h
  · left
    exact special hq hq41 hf (by omega) (chi_one H hp hq (by omega) (by omega) hpn hqn he hf h)
  · subst h
    right; right
    have hs := chi_same H hp hq (by omega) (by omega) hpn hqn he hf
    have m1 := v2_mod4 hp.1 he
    have m2 := v2_mod4 hq.1 hf
    have h4 : q % 4 = p % 4 := by
      rcases Nat.lt_or_ge e 2 with h5 | h5
      · have := m1.2.2 (by omega)
        have := m2.2.2 (by omega)
        omega
      · have := m1.1 h5
        have := m2.1 h5
        omega
    refine ⟨two_same hqo h4 (hs 2 (by decide)).symm, fun l hl => ?_⟩
    have hl2 := oddB_lt l hl
    have n1 := prime_mod_ne hq hl2.1 (by omega)
    have n2 := prime_mod_ne hp hl2.1 (by omega)
    exact ⟨n1, leg_same hl hqo h4 n1 n2 (hs l (oddB_base l hl)).symm⟩
  · right; left
    exact special hp hp41 he (by omega) (chi_one H hq hp (by omega) (by omega) hqn hpn hf he h)

theorem odd_index {x r e : Nat} (hx : ∃ m, x = 2 ^ e * (2 * m + 1)) (hr : 2 ^ e ∣ r) {s : Nat} (hs : x = r * s) : s % 2 = 1 := by
  obtain ⟨m, hm⟩ := hx
  obtain ⟨y, hy⟩ := hr
  rcases Nat.mod_two_eq_zero_or_one s with h | h
  · exfalso
    obtain ⟨t, rfl⟩ : ∃ t, s = 2 * t := ⟨s / 2, by omega⟩
    rw [hm, hy, Nat.mul_assoc] at hs
    have h1 := Nat.eq_of_mul_eq_mul_left (Nat.two_pow_pos e) hs
    have h2 : y * (2 * t) = 2 * (y * t) := by ac_rfl
    omega
  · exact h

/-- Two primes of one level, beyond the first rows. -/
theorem no_two5 {q w s d e : Nat} (S : Search) (H : Pass (q * w) s d) (hn63 : q * w < 9223372036854775808) (hq : Prime q) (hw : Prime w) (hq3 : 41 ≤ q) (hqw : q < w) (hw16 : 65537 ≤ w) (hw38 : w < 274877906944) (hbig : 4294967296 < w ∨ 2147483648 < q) (hvq : V2 q e) (hvw : V2 w e) : False := by
  have hwn : w ∣ q * w := Nat.dvd_mul_left _ _
  have hqn : q ∣ q * w := Nat.dvd_mul_right _ _
  obtain ⟨r1, r2⟩ := two_rank (show 2 ≤ q by omega) (show 2 ≤ w by omega)
  obtain ⟨hre, hr1⟩ := rank_even H hw (by omega)
  have hkw := kills_prime H hw (by omega) hwn
  have hkq := kills_prime H hq (by omega) hqn
  have hchi := chi_same H hq hw (by omega) (by omega) hqn hwn hvq hvw
  obtain ⟨I, hI, hI1, hI2⟩ := index_far H hw hw16 hwn hw38
  obtain ⟨E, hE, hE1, hE2⟩ := thrM_cov w (by omega) hw38
  obtain ⟨X, hX⟩ := thrM_ok E hE
  have hcr := thr_le hX H hw (by omega) hwn hE1
  obtain ⟨r, hr⟩ : ∃ r, r = Nat.gcd (w - 1) (q - 1) := ⟨_, rfl⟩
  rw [r2, ← hr] at hkq
  rw [r1, ← hr] at hkw hre hr1 hI hcr
  obtain ⟨t, ht⟩ : r ∣ q - 1 := hr ▸ Nat.gcd_dvd_right _ _
  have hr2 : 2 ^ e ∣ r := by
    rw [hr]
    obtain ⟨m, hm⟩ := hvq
    obtain ⟨k, hk⟩ := hvw
    exact Nat.dvd_gcd ⟨_, hk⟩ ⟨_, hm⟩
  have hIo := odd_index hvw hr2 hI
  have hto := odd_index hvq hr2 ht
  have htI : t < I := by
    have : r * t < r * I := by omega
    exact Nat.lt_of_mul_lt_mul_left this
  have hg : Nat.gcd t I = 1 := by
    have h1 : Nat.gcd (w - 1) (q - 1) = r * Nat.gcd I t := by rw [hI, ht, Nat.gcd_mul_left]
    rw [← hr] at h1
    have h2 : r * 1 = r * Nat.gcd I t := by rw [Nat.mul_one]; exact h1
    rw [Nat.gcd_comm]
    exact (Nat.eq_of_mul_eq_mul_left hr1 h2).symm
  obtain ⟨k1, k2⟩ := thrM_index E hE
  have hIc : I * E.c < E.V := by
    have h1 : I * E.c ≤ I * r := Nat.mul_le_mul_left _ hcr
    rw [Nat.mul_comm I r] at h1
    omega
  have hrow := S.row I hIo (by omega) hI2
  have eq : 1 + t * r = q := by rw [Nat.mul_comm]; omega
  have ew : 1 + I * r = w := by rw [Nat.mul_comm]; omega
  have ht1 : 1 * r ≤ t * r := Nat.mul_le_mul_right _ (by omega)
  refine row2_spec hrow hto hIo htI hg (r := r) ⟨by rw [eq]; exact hq, by rw [ew]; exact hw, by omega, by omega, hre, by rw [eq]; exact hkq, by rw [ew]; exact hkw, by rw [eq, ew]; exact hchi⟩ (Nat.le_trans (rmin_le hE hIc) hcr) ?_ ?_
  · have h1 : t * r * (I * r) ≤ q * w := Nat.mul_le_mul (by omega) (by omega)
    have h2 : t * I * (r * r) = t * r * (I * r) := by ac_rfl
    omega
  · rcases hbig with h | h
    · left; omega
    · right; omega

/-- Two primes. -/
theorem no_two_primes {q w s d : Nat} (S : Search) (H : Pass (q * w) s d) (hn63 : q * w < 9223372036854775808) (hq : Prime q) (hw : Prime w) (hq41 : 41 ≤ q) (hqw : q < w) : False := by
  have h41 : ∀ p, Prime p → p ∣ q * w → 41 ≤ p := by
    intro p hp hd
    rcases euclid hp hd with h | h
    · rcases hq.2 p h with h1 | h1
      · have := hp.1; omega
      · omega
    · rcases hw.2 p h with h1 | h1
      · have := hp.1; omega
      · omega
  by_cases hin : q < 2147483648 ∧ w < 4294967296
  · exact S.prods q w s d (by omega) (by omega) hin.1 hin.2 H h41
  have hw38 := below38 H rfl hn63 (by omega) hw
  have hne32 : w ≠ 4294967296 := by
    intro h
    rcases hw.2 2 ⟨2147483648, by omega⟩ with h1 | h1 <;> omega
  have hne31 : q ≠ 2147483648 := by
    intro h
    rcases hq.2 2 ⟨1073741824, by omega⟩ with h1 | h1 <;> omega
  have hbig : 4294967296 < w ∨ 2147483648 < q := by
    rcases Nat.lt_or_ge w 4294967296 with h | h
    · right
      rcases Nat.lt_or_ge q 2147483648 with h1 | h1
      · exact absurd ⟨h1, h⟩ hin
      · omega
    · left; omega
  have hqs : 4294967296 < w → q < 2147483648 := by
    intro h
    rcases Nat.lt_or_ge q 2147483648 with h1 | h1
    · exact h1
    · exfalso
      have := Nat.mul_le_mul h1 (show 4294967297 ≤ w by omega)
      omega
  have hqr : q < 3087007744 := by
    rcases Nat.lt_or_ge q 3087007744 with h1 | h1
    · exact h1
    · exfalso
      have := Nat.mul_le_mul h1 (show 3087007744 ≤ w by omega)
      omega
  obtain ⟨e, he⟩ := v2_ex hq.1
  obtain ⟨f, hf⟩ := v2_ex hw.1
  rcases Nat.lt_trichotomy e f with h | h | h
  · rcases Nat.lt_or_ge w 4294967296 with h1 | h1
    · exact no_special_w H hq hw hq41 hqw he hf h (fun h8 hl => S.wlow w h1 ⟨h8, hl⟩)
    · exact no_special_w5 H hn63 hq hw hq41 hqw (by omega) hw38 he hf h (fun h8 hl => S.whigh w h1 hw38 ⟨h8, hl⟩)
  · subst h
    exact no_two5 S H hn63 hq hw hq41 hqw (by omega) hw38 hbig he hf
  · rcases Nat.lt_or_ge 4294967296 w with h1 | h1
    · exact no_special_q5 H hn63 hq hw hq41 h1 hw38 he hf h (fun h8 hl => S.qlow q (hqs h1) ⟨h8, hl⟩)
    · exact no_special_q (wm := 4294967296) H hq hw hq41 hqw h1 he hf h (fun h8 hl => S.qmid q hqr ⟨h8, hl⟩)

/-- Three primes, the two least 2^32 or more together. -/
theorem no_three_far {p q w s d : Nat} (S : Search) (H : Pass (p * q * w) s d) (hn63 : p * q * w < 9223372036854775808) (hp : Prime p) (hq : Prime q) (hp41 : 41 ≤ p) (hpq : p < q) (hqw : q < w) (h32 : 4294967296 ≤ p * q) : False := by
  have hpn : p ∣ p * q * w := ⟨q * w, by rw [Nat.mul_assoc]⟩
  have hqn : q ∣ p * q * w := ⟨p * w, by ac_rfl⟩
  have hpo := prime_is_odd hp (by omega)
  have hqo := prime_is_odd hq (by omega)
  have hpl : ∀ l ∈ oddB, p % l ≠ 0 := fun l hl => by have := oddB_lt l hl; exact prime_mod_ne hp this.1 (by omega)
  have hql : ∀ l ∈ oddB, q % l ≠ 0 := fun l hl => by have := oddB_lt l hl; exact prime_mod_ne hq this.1 (by omega)
  have hpqq : p * (q * q) < 9223372036854775808 := by
    have h6 : p * (q * q) ≤ p * (q * w) := Nat.mul_le_mul_left _ (Nat.mul_le_mul_left _ (by omega))
    rw [← Nat.mul_assoc p q w] at h6
    omega
  have hp21 : p < 2097152 := by
    rcases Nat.lt_or_ge p 2097152 with h | h
    · exact h
    · exfalso
      have := Nat.mul_le_mul h (Nat.mul_le_mul (show 2097152 ≤ q by omega) (show 2097152 ≤ q by omega))
      omega
  have hqB : q < 478150656 := by
    rcases Nat.lt_or_ge q 478150656 with h | h
    · exact h
    · exfalso
      have := Nat.mul_le_mul hp41 (Nat.mul_le_mul h h)
      omega
  have hq16 : 65537 ≤ q := by
    rcases Nat.lt_or_ge q 65537 with h | h
    · exfalso
      have := Nat.mul_le_mul (show p ≤ 65535 by omega) (show q ≤ 65536 by omega)
      omega
    · exact h
  have hph : (p - 1) / 2 ∣ p * q * w - 1 := half_prime H hp hp41 hpn (by omega) (fun h => S.half p hpo hpl h (by omega))
  have hqh : q < 11863283 → (q - 1) / 2 ∣ p * q * w - 1 := fun hq11 => half_prime H hq (by omega) hqn hq11 (fun h => S.half q hqo hql h hq11)
  -- q special
  have hqS : Spcl q → False := by
    intro hs
    have e : q * p * w = p * q * w := by ac_rfl
    refine xp_spec (x := q) (y := p) (w := w) (s := s) (d := d) (S.xs q hq hq16 hqB hs) ?_ ?_ hq hp (by omega) hq16 (by omega) hp41 ?_ hqw (by omega) (by rw [Nat.mul_comm]; exact h32)
    · rw [e]; exact H
    · rw [e]; exact hn63
    · rw [e]; exact hph
  -- q is small where p is not
  have hq11 : 65537 ≤ p → q < 11863283 := by
    intro h
    rcases Nat.lt_or_ge q 11863283 with h1 | h1
    · exact h1
    · exfalso
      have := Nat.mul_le_mul h (Nat.mul_le_mul h1 h1)
      omega
  -- p special
  have hpS : Spcl p → False := by
    intro hs
    rcases Nat.lt_or_ge p 65537 with h | h
    · obtain ⟨rs, W, _, ht⟩ := S.tri p hpo hp41 h
      exact plain_not (plain_of_tri ht hp hp41) hs
    · exact xp_spec (S.xs p hp h (by omega) hs) H hn63 hp hq (by omega) h (by omega) (by omega) (hqh (hq11 h)) (by omega) hqw h32
  rcases kinds H hp hq hp41 (by omega) hpn hqn with h | h | ⟨h8, hl⟩
  · exact hqS h
  · exact hpS h
  · rcases Nat.lt_or_ge p 65537 with h | h
    · obtain ⟨rs, W, hrs, hsp⟩ := S.sa p hpo hp41 h
      exact sP_spec hrs hsp H hn63 hp hq hp41 h hq16 hqw h32 h8 hl hqS hqh
    · obtain ⟨m, hm, hsig⟩ := sig_ex fun l => leg l (p % l)
      obtain ⟨rs, hrs, hb⟩ := S.sb (p % 8) m (by omega) hm
      have hpd := whole_prime H hp hp41 hpn hph hpS
      have hqd := whole_prime H hq (by omega) hqn (hqh (hq11 h)) hqS
      exact bucket_spec hrs hb hm (by omega) (by omega) H hn63 hp hq h hpq hqw (hq11 h) rfl h8 (fun l hl' => ⟨hpl l hl', (hsig l hl').symm⟩) (fun l hl' => ⟨(hl l hl').1, by rw [(hl l hl').2]; exact (hsig l hl').symm⟩) hpd hqd

/-- No composite number below 2^63 passes. -/
theorem no_pass63 {n s d : Nat} (S : Search) (H : Pass n s d) (hn63 : n < 9223372036854775808) (h41 : ∀ p, Prime p → p ∣ n → 41 ≤ p) (hnp : ¬ Prime n) : False := by
  have hn2 := H.two
  have hsq : ∀ u, Prime u → u ∣ n → ¬ u * u ∣ n := fun u hu hd => no_square H hu (h41 u hu hd) hn63
  obtain ⟨p, hp, ⟨m, hm⟩, hpmin⟩ := least_factor n hn2
  have hpn : p ∣ n := ⟨m, hm⟩
  have hp41 := h41 p hp hpn
  have hpo := prime_is_odd hp (by omega)
  have hm2 : 2 ≤ m := by
    rcases m with _ | _ | m
    · rw [Nat.mul_zero] at hm; omega
    · exfalso
      rw [Nat.zero_add, Nat.mul_one] at hm
      rw [← hm] at hp
      exact hnp hp
    · omega
  obtain ⟨q, hq, ⟨c, hc⟩, hqmin⟩ := least_factor m hm2
  have hqm : q ∣ m := ⟨c, hc⟩
  have hqn : q ∣ n := Nat.dvd_trans hqm ⟨p, by rw [hm, Nat.mul_comm]⟩
  have hpq : p < q := by
    have h1 := hpmin q hq.1 hqn
    rcases Nat.lt_or_ge p q with h2 | h2
    · exact h2
    · exfalso
      have : q = p := by omega
      exact hsq p hp hpn ⟨c, by rw [hm, hc, this, Nat.mul_assoc]⟩
  rcases Nat.lt_or_ge c 2 with hc2 | hc2
  · -- two primes
    have hc1 : c = 1 := by
      rcases c with _ | c
      · rw [Nat.mul_zero] at hc; omega
      · omega
    rw [hc1, Nat.mul_one] at hc
    rw [hc] at hm
    rw [hm] at H hn63
    exact no_two_primes S H hn63 hp hq hp41 hpq
  · -- three or more
    have hnc : n = p * q * c := by rw [hm, hc, Nat.mul_assoc]
    have hcn : c ∣ n := ⟨p * q, by rw [hnc, Nat.mul_comm]⟩
    have hcm : c ∣ m := ⟨q, by rw [hc, Nat.mul_comm]⟩
    have hcq : ∀ u, Prime u → u ∣ c → q < u := by
      intro u hu hd
      have h1 := hqmin u hu.1 (Nat.dvd_trans hd hcm)
      rcases Nat.lt_or_ge q u with h2 | h2
      · exact h2
      · exfalso
        have : u = q := by omega
        rw [this] at hd
        obtain ⟨z, hz⟩ := hd
        exact hsq q hq hqn ⟨p * z, by rw [hnc, hz]; ac_rfl⟩
    have hpq0 : 0 < p * q := Nat.mul_pos (by omega) (by omega)
    rcases Nat.lt_or_ge (p * q) 4294967296 with hpq32 | hpq32
    · have hp16 : p < 65537 := by
        rcases Nat.lt_or_ge p 65537 with h | h
        · exact h
        · have := Nat.mul_le_mul h (show 65537 ≤ q by omega)
          omega
      obtain ⟨rs, W, hrs, htri⟩ := S.tri p hpo hp41 hp16
      by_cases hcp : Prime c ∧ 4294967296 < c
      · -- a great prime
        obtain ⟨hcp, hc32⟩ := hcp
        have hp46 : p < 46349 := by
          rcases Nat.lt_or_ge p 46349 with h | h
          · exact h
          · exfalso
            have h1 : 46349 * 46349 ≤ p * q := Nat.mul_le_mul h (by omega)
            have h2 : 46349 * 46349 * 4294967297 ≤ p * q * c := Nat.mul_le_mul h1 hc32
            omega
        obtain ⟨rs', W', hrs', hca⟩ := S.ca p hpo hp41 hp46
        rw [hnc] at H hn63
        exact caP_spec hrs' hca (plain_of_tri htri hp hp41) H hn63 hp hp41 hp16 hq hpq hcp hc32
      · refine no_three2 hrs htri H hn63 hnc hp hq hp41 hp16 hpq ?_ hc2 hcq ?_ ?_
        · rw [Nat.le_div_iff_mul_le (by omega), Nat.mul_comm]; omega
        · intro h
          rcases Nat.lt_or_ge 4294967296 c with h1 | h1
          · exact absurd ⟨h, h1⟩ hcp
          · exact h1
        · intro u hu
          rw [Nat.le_div_iff_mul_le (by omega)]
          rcases Nat.lt_or_ge (u * p) 4294967297 with h | h
          · omega
          · exfalso
            have h1 : 4294967297 * 4294967297 ≤ u * p * (u * p) := Nat.mul_le_mul h h
            have h2 : u * p * (u * p) = p * p * (u * u) := by ac_rfl
            have h3 : p * p * (u * u) ≤ p * q * (u * u) := Nat.mul_le_mul_right _ (Nat.mul_le_mul_left _ (by omega))
            omega
    · -- c is a prime
      have hqc : q < c := by
        obtain ⟨u, hu, huc, _⟩ := least_factor c hc2
        have := hcq u hu huc
        have := Nat.le_of_dvd (by omega) huc
        omega
      rw [hnc] at H hn63
      exact no_three_far S H hn63 hp hq hp41 hpq hqc hpq32
end Go.Proofs.YtpphfeinmmmckaaDoor
