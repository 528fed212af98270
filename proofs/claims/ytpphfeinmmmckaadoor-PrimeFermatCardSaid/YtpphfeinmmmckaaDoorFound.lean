/-
  PrimeFermat: all searches as one statement; the numbers below 2^63 that prime.Is calls primes are primes; the law (foundgen.py prints this text).
-/
import Derived.Test.YtpphfeinmmmckaaDoorRwA
import Derived.Test.YtpphfeinmmmckaaDoorRwB
import Derived.Test.YtpphfeinmmmckaaDoorRwC
import Derived.Test.YtpphfeinmmmckaaDoorRwD
import Derived.Test.YtpphfeinmmmckaaDoorSpA
import Derived.Test.YtpphfeinmmmckaaDoorSpC
import Derived.Test.YtpphfeinmmmckaaDoorTrA
import Derived.Test.YtpphfeinmmmckaaDoorTrB
import Derived.Test.YtpphfeinmmmckaaDoorR2A
import Derived.Test.YtpphfeinmmmckaaDoorR2B
import Derived.Test.YtpphfeinmmmckaaDoorR2C
import Derived.Test.YtpphfeinmmmckaaDoorR2D
import Derived.Test.YtpphfeinmmmckaaDoorR2E
import Derived.Test.YtpphfeinmmmckaaDoorR2F
import Derived.Test.YtpphfeinmmmckaaDoorFaA
import Derived.Test.YtpphfeinmmmckaaDoorFaB
import Derived.Test.YtpphfeinmmmckaaDoorFaC
import Derived.Test.YtpphfeinmmmckaaDoorFaD
import Derived.Test.YtpphfeinmmmckaaDoorFqA
import Derived.Test.YtpphfeinmmmckaaDoorHf
import Derived.Test.YtpphfeinmmmckaaDoorXsA
import Derived.Test.YtpphfeinmmmckaaDoorXsB
import Derived.Test.YtpphfeinmmmckaaDoorSaA
import Derived.Test.YtpphfeinmmmckaaDoorSaB
import Derived.Test.YtpphfeinmmmckaaDoorSaC
import Derived.Test.YtpphfeinmmmckaaDoorSaD
import Derived.Test.YtpphfeinmmmckaaDoorSbA
import Derived.Test.YtpphfeinmmmckaaDoorSbB
import Derived.Test.YtpphfeinmmmckaaDoorSbC
import Derived.Test.YtpphfeinmmmckaaDoorSbD
import Derived.Test.YtpphfeinmmmckaaDoorCaA
import Derived.Test.YtpphfeinmmmckaaDoorAlone
import Derived.Test.YtpphfeinmmmckaaDoorFermatLaw
namespace Go.Proofs.YtpphfeinmmmckaaDoor
open Nt Go.RowKit

theorem thr_index : ∀ e ∈ thrL, e.V ≤ 608 * e.c ∧ 15526 ≤ e.c := by decide +kernel

theorem row_all (I : Nat) (ho : I % 2 = 1) (h1 : 3 ≤ I) (h2 : I < 608) : row 4294967296 2147483648 I = true := by
  have step : ∀ a n, (∀ t, t < n → row 4294967296 2147483648 (a + 2 * t) = true) → a % 2 = 1 → a ≤ I → I < a + 2 * n → row 4294967296 2147483648 I = true := by
    intro a n h ha h3 h4
    have := h ((I - a) / 2) (by omega)
    rwa [show a + 2 * ((I - a) / 2) = I by omega] at this
  rcases Nat.lt_or_ge I 105 with h | h
  · exact step 3 51 rwA (by omega) (by omega) (by omega)
  clear h1; have h1 := h; clear h
  rcases Nat.lt_or_ge I 211 with h | h
  · exact step 105 53 rwB (by omega) (by omega) (by omega)
  clear h1; have h1 := h; clear h
  rcases Nat.lt_or_ge I 337 with h | h
  · exact step 211 63 rwC (by omega) (by omega) (by omega)
  clear h1; have h1 := h; clear h
  exact step 337 136 rwD (by omega) (by omega) (by omega)

theorem spec_w (w : Nat) (h : w < 4294967296) (h8 : w % 8 = 1) (hl : ∀ l ∈ oddB, w % l ≠ 0 ∧ leg l (w % l) = true) : kW w = true := by
  have hk : w / 8 / 1048576 < 512 := by omega
  rcases Nat.lt_or_ge (w / 8 / 1048576) 256 with h1 | h1
  · exact specB_spec (spA (w / 8 / 1048576 / 16) (by omega)) (by omega) h8 (by omega) (by omega) hl
  · exact specB_spec (spB ((w / 8 / 1048576 - 256) / 16) (by omega)) (by omega) h8 (by omega) (by omega) hl

theorem spec_q (q : Nat) (h : q < 2147483648) (h8 : q % 8 = 1) (hl : ∀ l ∈ oddB, q % l ≠ 0 ∧ leg l (q % l) = true) : kQ 4294967296 q = true := by
  have hk : q / 8 / 1048576 < 256 := by omega
  exact specB_spec (spC (q / 8 / 1048576 / 16) (by omega)) (by omega) h8 (by omega) (by omega) hl

theorem tri_all (p : Nat) (ho : p % 2 = 1) (h1 : 41 ≤ p) (h2 : p < 65537) : ∃ rs W, (∀ e ∈ rs, e.1 ∈ ones ∧ e.2 = repD e.1.d (W / e.1.d + 2)) ∧ tri rs W 4294967296 (4294967296 / p) p = true := by
  rcases Nat.lt_or_ge p 1201 with h | h
  · exact trA p ho (by omega) (by omega)
  clear h1; have h1 := h; clear h
  exact trB p ho (by omega) (by omega)

theorem sa_all (p : Nat) (ho : p % 2 = 1) (h1 : 41 ≤ p) (h2 : p < 65537) : ∃ rs W, (∀ e ∈ rs, e.1 ∈ ones ∧ e.2 = repD e.1.d (W / e.1.d + 2)) ∧ sP rs W p = true := by
  rcases Nat.lt_or_ge p 3209 with h | h
  · exact saA p ho (by omega) (by omega)
  clear h1; have h1 := h; clear h
  rcases Nat.lt_or_ge p 14221 with h | h
  · exact saB p ho (by omega) (by omega)
  clear h1; have h1 := h; clear h
  rcases Nat.lt_or_ge p 34429 with h | h
  · exact saC p ho (by omega) (by omega)
  clear h1; have h1 := h; clear h
  exact saD p ho (by omega) (by omega)

theorem ca_all (p : Nat) (ho : p % 2 = 1) (h1 : 41 ≤ p) (h2 : p < 46349) : ∃ rs W, (∀ e ∈ rs, e.1 ∈ ones ∧ e.2 = repD e.1.d (W / e.1.d + 2)) ∧ caP rs W p = true := by
  exact caA p ho (by omega) (by omega)

theorem row2_all (I : Nat) (ho : I % 2 = 1) (h1 : 3 ≤ I) (h2 : I < 6684) : row2 I = true := by
  rcases Nat.lt_or_ge I 217 with h | h
  · exact r2A I ho (by omega) (by omega)
  clear h1; have h1 := h; clear h
  rcases Nat.lt_or_ge I 391 with h | h
  · exact r2B I ho (by omega) (by omega)
  clear h1; have h1 := h; clear h
  rcases Nat.lt_or_ge I 551 with h | h
  · exact r2C I ho (by omega) (by omega)
  clear h1; have h1 := h; clear h
  rcases Nat.lt_or_ge I 789 with h | h
  · exact r2D I ho (by omega) (by omega)
  clear h1; have h1 := h; clear h
  rcases Nat.lt_or_ge I 1371 with h | h
  · exact r2E I ho (by omega) (by omega)
  clear h1; have h1 := h; clear h
  exact r2F I ho (by omega) (by omega)

theorem far_all (u : Nat) (h1 : 536870912 ≤ u / 8) (h2 : u / 8 < 34359738368) (hs : Spcl u) : kW5 u = true := by
  rcases Nat.lt_or_ge (u / 8) 8992587776 with h | h
  · exact faA u (by omega) (by omega) hs.1 hs.2
  clear h1; have h1 := h; clear h
  rcases Nat.lt_or_ge (u / 8) 17448304640 with h | h
  · exact faB u (by omega) (by omega) hs.1 hs.2
  clear h1; have h1 := h; clear h
  rcases Nat.lt_or_ge (u / 8) 25904021504 with h | h
  · exact faC u (by omega) (by omega) hs.1 hs.2
  clear h1; have h1 := h; clear h
  exact faD u (by omega) (by omega) hs.1 hs.2

theorem half_all (y : Nat) (ho : y % 2 = 1) (hl : ∀ l ∈ oddB, y % l ≠ 0) (h1 : 8192 ≤ y / 8) (h2 : y / 8 < 1488192) : kHalf y = true := by
  rcases Nat.lt_or_ge (y / 8) 748192 with h | h
  · exact hfA y ho hl (by omega) (by omega)
  clear h1; have h1 := h; clear h
  exact hfB y ho hl (by omega) (by omega)

theorem xs_all (u : Nat) (hu : Prime u) (h16 : 65537 ≤ u) (h1 : 0 ≤ u / 8 / 1048576) (h2 : u / 8 / 1048576 < 57) (hs : Spcl u) : XP u := by
  rcases Nat.lt_or_ge (u / 8 / 1048576) 1 with h | h
  · exact xsa u hu h16 (by omega) (by omega) hs.1 hs.2
  clear h1; have h1 := h; clear h
  exact xsb u hu h16 (by omega) (by omega) hs.1 hs.2

theorem sb_all (a0 m : Nat) (h : a0 = 1 ∨ a0 = 3 ∨ a0 = 5 ∨ a0 = 7) (hm : m < 2048) : ∃ rs, (∀ e ∈ rs, e.1 ∈ ones ∧ e.2 = repD e.1.d (1474720 / e.1.d + 2)) ∧ bucket rs 1474720 a0 m = true := by
  rcases h with rfl | rfl | rfl | rfl
  · exact sbA m hm
  · exact sbB m hm
  · exact sbC m hm
  · exact sbD m hm

theorem spec_m (q : Nat) (h : q < 3087007744) (h8 : q % 8 = 1) (hl : ∀ l ∈ oddB, q % l ≠ 0 ∧ leg l (q % l) = true) : kQ 4294967296 q = true := by
  rcases Nat.lt_or_ge (q / 8 / 1048576) 256 with h1 | h1
  · exact specB_spec (spC (q / 8 / 1048576 / 16) (by omega)) (by omega) h8 (by omega) (by omega) hl
  · exact specB_spec (spD ((q / 8 / 1048576 - 256) / 16) (by omega)) (by omega) h8 (by omega) (by omega) hl

/-- Quotients by a common exponent at one level are odd. -/
theorem index_odd {x r e : Nat} (hx : ∃ m, x = 2 ^ e * (2 * m + 1)) (hr : 2 ^ e ∣ r) {s : Nat} (hs : x = r * s) : s % 2 = 1 := by
  obtain ⟨m, hm⟩ := hx
  obtain ⟨y, hy⟩ := hr
  rcases Nat.mod_two_eq_zero_or_one s with h | h
  · exfalso
    obtain ⟨t, rfl⟩ : ∃ t, s = 2 * t := ⟨s / 2, by omega⟩
    rw [hm, hy, Nat.mul_assoc] at hs
    have h1 := Nat.eq_of_mul_eq_mul_left (Nat.two_pow_pos e) hs
    have h2 : y * (2 * t) = 2 * (y * t) := by ac_rfl
    omega
  · exact h

/-- Two primes of one level fail. -/
theorem no_two {q w s d e : Nat} (H : Pass (q * w) s d) (hq : Prime q) (hw : Prime w) (hq3 : 41 ≤ q) (hqw : q < w) (hq31 : q < 2147483648) (hw32 : w < 4294967296) (hvq : V2 q e) (hvw : V2 w e) : False := by
  have hwn : w ∣ q * w := Nat.dvd_mul_left _ _
  have hqn : q ∣ q * w := Nat.dvd_mul_right _ _
  obtain ⟨r1, r2⟩ := two_rank (show 2 ≤ q by omega) (show 2 ≤ w by omega)
  obtain ⟨hre, hr1⟩ := rank_even H hw (by omega)
  have hkw := kills_prime H hw (by omega) hwn
  have hkq := kills_prime H hq (by omega) hqn
  have hchi := chi_same H hq hw (by omega) (by omega) hqn hwn hvq hvw
  obtain ⟨r, hr⟩ : ∃ r, r = Nat.gcd (w - 1) (q - 1) := ⟨_, rfl⟩
  rw [r2, ← hr] at hkq
  rw [r1, ← hr] at hkw hre hr1
  obtain ⟨I, hI⟩ : r ∣ w - 1 := hr ▸ Nat.gcd_dvd_left _ _
  obtain ⟨t, ht⟩ : r ∣ q - 1 := hr ▸ Nat.gcd_dvd_right _ _
  have hr2 : 2 ^ e ∣ r := by
    rw [hr]
    obtain ⟨m, hm⟩ := hvq
    obtain ⟨k, hk⟩ := hvw
    exact Nat.dvd_gcd ⟨_, hk⟩ ⟨_, hm⟩
  have hIo := index_odd hvw hr2 hI
  have hto := index_odd hvq hr2 ht
  have htI : t < I := by
    have : r * t < r * I := by omega
    exact Nat.lt_of_mul_lt_mul_left this
  have hg : Nat.gcd t I = 1 := by
    have h1 : Nat.gcd (w - 1) (q - 1) = r * Nat.gcd I t := by rw [hI, ht, Nat.gcd_mul_left]
    rw [← hr] at h1
    have h2 : r * 1 = r * Nat.gcd I t := by rw [Nat.mul_one]; exact h1
    rw [Nat.gcd_comm]
    exact (Nat.eq_of_mul_eq_mul_left hr1 h2).symm
  -- w is great
  have hw16 : 65537 ≤ w := by
    rcases Nat.lt_or_ge w 65537 with h | h
    · exfalso
      have h1 := (checks.full w hw (by omega) h).1 r hkw
      have h2 := Nat.le_of_dvd hr1 h1
      have h3 : r * 2 ≤ r * I := Nat.mul_le_mul_left _ (by omega)
      omega
    · exact h
  obtain ⟨E, hE, hE1, hE2⟩ := thrL_cov w (by omega) hw32
  obtain ⟨X, hX⟩ := thrL_ok E hE
  have hcr := thr_le hX H hw (by omega) hwn hE1
  rw [r1, ← hr] at hcr
  obtain ⟨k1, k2⟩ := thr_index E hE
  have hIc : I * E.c < E.V := by
    have h1 : I * E.c ≤ I * r := Nat.mul_le_mul_left _ hcr
    rw [Nat.mul_comm I r] at h1
    omega
  have hI608 : I < 608 := by
    have h1 : I * E.c < 608 * E.c := by omega
    exact Nat.lt_of_mul_lt_mul_right h1
  have hrow := row_all I hIo (by omega) hI608
  have eq : 1 + t * r = q := by rw [Nat.mul_comm]; omega
  have ew : 1 + I * r = w := by rw [Nat.mul_comm]; omega
  have ht1 : 1 * r ≤ t * r := Nat.mul_le_mul_right _ (by omega)
  refine row_spec hrow hto hIo htI hg (r := r) ⟨by rw [eq]; exact hq, by rw [ew]; exact hw, by omega, by omega, hre, by rw [eq]; exact hkq, by rw [ew]; exact hkw, by rw [eq, ew]; exact hchi⟩ ?_ (by omega) (by omega)
  exact Nat.le_trans (rmin_le hE hIc) hcr

/-- No composite number of this form passes. -/
theorem no_pass {x y s d : Nat} (hx2 : 2 ≤ x) (hy2 : 2 ≤ y) (hx : x < 2147483648) (hy : y < 4294967296) (H : Pass (x * y) s d) (h41 : ∀ p, Prime p → p ∣ x * y → 41 ≤ p) : False := by
  obtain ⟨n, hn⟩ : ∃ n, n = x * y := ⟨_, rfl⟩
  have hn63 : n < 9223372036854775808 := by
    have h1 : x * y ≤ 2147483647 * 4294967295 := Nat.mul_le_mul (by omega) (by omega)
    omega
  rw [← hn] at H h41
  have hn2 := H.two
  have hxn : x ∣ n := ⟨y, hn⟩
  have hyn : y ∣ n := ⟨x, by rw [hn, Nat.mul_comm]⟩
  have hlt32 : ∀ u, Prime u → u ∣ n → u < 4294967296 := by
    intro u hu hd
    rw [hn] at hd
    rcases euclid hu hd with h | h
    · have := Nat.le_of_dvd (by omega) h; omega
    · have := Nat.le_of_dvd (by omega) h; omega
  have hsq : ∀ u, Prime u → u ∣ n → ¬ u * u ∣ n := fun u hu hd => no_square H hu (h41 u hu hd) hn63
  obtain ⟨p, hp, ⟨m, hm⟩, hpmin⟩ := least_factor n hn2
  have hpn : p ∣ n := ⟨m, hm⟩
  have hp41 := h41 p hp hpn
  have hm2 : 2 ≤ m := by
    rcases m with _ | _ | m
    · rw [Nat.mul_zero] at hm; omega
    · exfalso
      rw [Nat.zero_add, Nat.mul_one] at hm
      rw [← hm] at hp
      rcases hp.2 x hxn with h | h
      · omega
      · have h1 : x * 1 = x * y := by rw [Nat.mul_one, ← hn]; exact h
        have := Nat.eq_of_mul_eq_mul_left (by omega) h1
        omega
    · omega
  obtain ⟨q, hq, ⟨c, hc⟩, hqmin⟩ := least_factor m hm2
  have hqm : q ∣ m := ⟨c, hc⟩
  have hqn : q ∣ n := Nat.dvd_trans hqm ⟨p, by rw [hm, Nat.mul_comm]⟩
  have hpq : p < q := by
    have h1 := hpmin q hq.1 hqn
    rcases Nat.lt_or_ge p q with h2 | h2
    · exact h2
    · exfalso
      have : q = p := by omega
      exact hsq p hp hpn ⟨c, by rw [hm, hc, this, Nat.mul_assoc]⟩
  rcases Nat.lt_or_ge c 2 with hc2 | hc2
  · -- two primes
    have hc1 : c = 1 := by
      rcases c with _ | c
      · rw [Nat.mul_zero] at hc; omega
      · omega
    rw [hc1, Nat.mul_one] at hc
    rw [hc] at hm
    have hp31 : p < 2147483648 := by
      obtain ⟨u, hu, hux, _⟩ := least_factor x hx2
      have h1 := Nat.le_of_dvd (by omega) hux
      have h2 := hpmin u hu.1 (Nat.dvd_trans hux hxn)
      omega
    have hq32 := hlt32 q hq hqn
    rw [hm] at H
    obtain ⟨e, he⟩ := v2_ex hp.1
    obtain ⟨f, hf⟩ := v2_ex hq.1
    rcases Nat.lt_trichotomy e f with h | h | h
    · exact no_special_w H hp hq hp41 hpq he hf h (fun h8 hl => spec_w q hq32 h8 hl)
    · subst h
      exact no_two H hp hq hp41 hpq hp31 hq32 he hf
    · exact no_special_q (wm := 4294967296) H hp hq hp41 hpq (by omega) he hf h (fun h8 hl => spec_q p hp31 h8 hl)
  · -- three or more
    have hmn : m ∣ n := ⟨p, by rw [hm, Nat.mul_comm]⟩
    have hnc : n = p * q * c := by rw [hm, hc, Nat.mul_assoc]
    have hcn : c ∣ n := ⟨p * q, by rw [hnc, Nat.mul_comm]⟩
    have hcm : c ∣ m := ⟨q, by rw [hc, Nat.mul_comm]⟩
    have hother : ∀ u, Prime u → u ∣ n → u ≠ p → q ≤ u := by
      intro u hu hd hne
      rw [hm] at hd
      rcases euclid hu hd with h | h
      · exfalso
        rcases hp.2 u h with h1 | h1
        · have := hu.1; omega
        · exact hne h1
      · exact hqmin u hu.1 h
    have hsmall : ∀ z, 2 ≤ z → z < 4294967296 → z ∣ n → ¬ Prime z → p * q < 4294967296 := by
      intro z hz2 hz hzn hzp
      obtain ⟨u, hu, ⟨v, hv⟩, _⟩ := least_factor z hz2
      have hv2 : 2 ≤ v := by
        rcases v with _ | _ | v
        · rw [Nat.mul_zero] at hv; omega
        · exfalso; apply hzp; rw [hv, Nat.zero_add, Nat.mul_one]; exact hu
        · omega
      obtain ⟨u', hu', ⟨v', hv'⟩, _⟩ := least_factor v hv2
      have huz : u * u' ∣ z := ⟨v', by rw [hv, hv', Nat.mul_assoc]⟩
      have hle := Nat.le_of_dvd (by omega) huz
      have hun : u ∣ n := Nat.dvd_trans ⟨v, hv⟩ hzn
      have hu'n : u' ∣ n := Nat.dvd_trans (Nat.dvd_trans (Nat.dvd_mul_left _ _) huz) hzn
      have hne : u ≠ u' := by
        intro h
        rw [← h] at huz
        exact hsq u hu hun (Nat.dvd_trans huz hzn)
      have hpu := hpmin u hu.1 hun
      have hpu' := hpmin u' hu'.1 hu'n
      by_cases hup : u = p
      · have h1 := hother u' hu' hu'n (fun h => hne (hup.trans h.symm))
        have h2 : p * q ≤ u * u' := Nat.mul_le_mul hpu h1
        omega
      · have h1 := hother u hu hun hup
        have h2 : p * q ≤ u' * u := Nat.mul_le_mul hpu' h1
        rw [Nat.mul_comm u' u] at h2
        omega
    have hpq32 : p * q < 4294967296 := by
      by_cases hxp : Prime x
      · by_cases hyp : Prime y
        · exfalso
          -- then n has two prime factors alone
          obtain ⟨u, hu, huc, _⟩ := least_factor c hc2
          have key : ∀ v, Prime v → v ∣ n → v = x ∨ v = y := by
            intro v hv hd
            rw [hn] at hd
            rcases euclid hv hd with h | h
            · rcases hxp.2 v h with h1 | h1
              · have := hv.1; omega
              · exact .inl h1
            · rcases hyp.2 v h with h1 | h1
              · have := hv.1; omega
              · exact .inr h1
          have huq := hqmin u hu.1 (Nat.dvd_trans huc hcm)
          have hune : u ≠ q := by
            intro h
            rw [h] at huc
            obtain ⟨z, hz⟩ := huc
            exact hsq q hq hqn ⟨p * z, by rw [hnc, hz]; ac_rfl⟩
          have k1 := key p hp hpn
          have k2 := key q hq hqn
          have k3 := key u hu (Nat.dvd_trans huc hcn)
          omega
        · exact hsmall y hy2 hy hyn hyp
      · exact hsmall x hx2 (by omega) hxn hxp
    have hp16 : p < 65537 := by
      rcases Nat.lt_or_ge p 65537 with h | h
      · exact h
      · have := Nat.mul_le_mul h (show 65537 ≤ q by omega)
        omega
    obtain ⟨rs, W, hrs, htri⟩ := tri_all p (prime_is_odd hp (by omega)) hp41 hp16
    refine no_three hrs htri H hn63 hnc hp hq hp41 hp16 hpq ?_ hc2 ?_ ?_ ?_
    · rw [Nat.le_div_iff_mul_le (by omega), Nat.mul_comm]; omega
    · intro u hu hd
      have h1 := hqmin u hu.1 (Nat.dvd_trans hd hcm)
      rcases Nat.lt_or_ge q u with h2 | h2
      · exact h2
      · exfalso
        have : u = q := by omega
        rw [this] at hd
        obtain ⟨z, hz⟩ := hd
        exact hsq q hq hqn ⟨p * z, by rw [hnc, hz]; ac_rfl⟩
    · intro u hu hd
      have := hlt32 u hu (Nat.dvd_trans hd hcn)
      omega
    · intro u hu
      rw [Nat.le_div_iff_mul_le (by omega)]
      rcases Nat.lt_or_ge (u * p) 4294967297 with h | h
      · omega
      · exfalso
        have h1 : 4294967297 * 4294967297 ≤ u * p * (u * p) := Nat.mul_le_mul h h
        have h2 : u * p * (u * p) = p * p * (u * u) := by ac_rfl
        have h3 : p * p * (u * u) ≤ p * q * (u * u) := Nat.mul_le_mul_right _ (Nat.mul_le_mul_left _ (by omega))
        omega

/-- All searches. -/
theorem search : Search where
  prods := fun x y s d hx2 hy2 hx hy H h41 => no_pass hx2 hy2 hx hy H h41
  row := row2_all
  wlow := fun w h hs => spec_w w h hs.1 hs.2
  whigh := fun w h1 h2 hs => far_all w (by omega) (by omega) hs
  qmid := fun q h hs => spec_m q h hs.1 hs.2
  qlow := fun q h hs => fqA q (by omega) (by omega) hs.1 hs.2
  tri := tri_all
  half := fun y ho hl h1 h2 => half_all y ho hl (by omega) (by omega)
  xs := fun u hu h16 h hs => xs_all u hu h16 (by omega) (by omega) hs
  sa := sa_all
  sb := sb_all
  ca := ca_all

/-- Below 2^63 prime.Is says yes to primes alone. -/
theorem mrIs_true {n : Nat} (hmr : mrIs n = true) : Prime n := by
  unfold mrIs at hmr
  by_cases h2 : n < 2 ∨ 9223372036854775808 ≤ n
  · rw [if_pos h2] at hmr; cases hmr
  rw [if_neg h2] at hmr
  cases hf : (List.range 12).find? (fun k => n % baseAt k == 0) with
  | some k =>
    obtain ⟨a, b, _⟩ := find_some hf
    rw [hf] at hmr
    have h3 : n = baseAt k := by simpa using hmr
    rw [h3]
    exact ⟨(baseAt_lo k a).1, base_prime k a⟩
  | none =>
    rw [hf] at hmr
    have hnn := List.find?_eq_none.1 hf
    have hno : ∀ j, j < 12 → n % baseAt j ≠ 0 := fun j hj => by have := hnn j (List.mem_range.2 hj); simpa using this
    have h0 : n % 2 ≠ 0 := hno 0 (by omega)
    obtain ⟨t1, _, _, t4, t5⟩ := ctz_even (n - 1) (by omega) (by omega) (by omega)
    have hs : strongs n ((n - 1) / 2 ^ Lib.ctz 64 (n - 1)) (Lib.ctz 64 (n - 1)) = true := hmr
    generalize Lib.ctz 64 (n - 1) = twos at *
    generalize (n - 1) / 2 ^ twos = odd at *
    have hst : ∀ b ∈ baseL, strong n odd twos b = true := by
      intro b hb
      obtain ⟨k, hk, rfl⟩ := baseL_of b hb
      unfold strongs at hs
      rw [List.all_eq_true] at hs
      exact hs k (List.mem_range.2 hk)
    have H : Pass n twos odd := ⟨by omega, t4, t5, t1, fun b hb => strong_spec t1 (hst b hb), fun b hb => strong_fermat (by omega) t1 t4 (hst b hb)⟩
    refine Classical.byContradiction fun hnp => no_pass63 search H (by omega) (fun p hp hd => ?_) hnp
    rcases Nat.lt_or_ge p 41 with h | h
    · obtain ⟨k, hk⟩ := small_primes ⟨p, h⟩ hp.1 fun d h1 h2 => ((prime_iff p).1 hp).2 d.val h1 h2
      have hk' : p = baseAt k.val := hk
      exact absurd (Nat.mod_eq_zero_of_dvd (hk' ▸ hd)) (hno k.val k.isLt)
    · exact h

/-- The law. -/
theorem fermatlaw_full (n a : Nat) (w : World) (hn : n < 18446744073709551616) (_ha : a < 18446744073709551616) (hT : Hid (TabAt w)) :
    Calls Tryd.prog 5 #[.int .u64 n, .int .u64 a] w fun e w' => e = .returned (.bool true) ∧ Below w.heap.size w w' := by
  refine fermatlaw_any n a w hn hT fun hm => ?_
  have hp := mrIs_true hm
  by_cases hd : n ∣ a
  · have h1 : a % n = 0 := Nat.mod_eq_zero_of_dvd hd
    obtain ⟨k, hk⟩ : ∃ k, n = k + 1 := ⟨n - 1, by have := hp.1; omega⟩
    rw [h1]
    refine Nat.mod_eq_zero_of_dvd (Nat.dvd_trans hd ?_)
    conv => rhs; rw [hk, Nat.pow_succ]
    exact Nat.dvd_mul_left _ _
  · have h1 := fermat hp hd
    have e : a ^ n = a ^ (n - 1) * a := by
      rw [← Nat.pow_succ]; congr 1; have := hp.1; omega
    rw [e, Nat.mul_mod, h1, Nat.one_mul, Nat.mod_mod]
end Go.Proofs.YtpphfeinmmmckaaDoor
