/-
  Plain: three primes of a number, the two least of one level with the same characters: the check for one least prime p below 65537.
-/
import Derived.Test.YtpphfeinmmmckaaDoorMHalf
namespace Go.Proofs.YtpphfeinmmmckaaDoor
open Nt

/-- Special: 1 modulo 8 and a square modulo all odd bases. -/
def Spcl (y : Nat) : Prop := y % 8 = 1 ∧ ∀ l ∈ oddB, y % l ≠ 0 ∧ leg l (y % l) = true

/-- Not special, and no odd prime divides the index: it is 1. -/
theorem whole_ns {n s d q : Nat} (H : Pass n s d) (hq : Prime q) (h16 : 65537 ≤ q) (hqB : q < 536870912) (hqn : q ∣ n) (hr : rest200 tstR q = true) (hns : ¬ Spcl q) : (q - 1) ∣ n - 1 := by
  have ho := prime_is_odd hq (by omega)
  obtain ⟨I, hI, hI1, hI2⟩ := index_near thrI200 H hq h16 hqn (by omega) (by omega)
  obtain ⟨hre, hr1⟩ := rank_even H hq (by omega)
  have hk := kills_prime H hq (by omega) hqn
  obtain ⟨r, hr0⟩ : ∃ r, r = Nat.gcd (q - 1) (n - 1) := ⟨_, rfl⟩
  have hrn : r ∣ n - 1 := by rw [hr0]; exact Nat.gcd_dvd_right _ _
  rw [← hr0] at hI hre hr1 hk
  have hIo : I % 2 = 1 := by
    rcases Nat.mod_two_eq_zero_or_one I with h | h
    · exfalso
      obtain ⟨J, rfl⟩ : ∃ J, I = 2 * J := ⟨I / 2, by omega⟩
      obtain ⟨t, rfl⟩ : ∃ t, r = 2 * t := ⟨r / 2, by omega⟩
      have e : 2 * t * (2 * J) = 4 * (t * J) := by
        have : (4 : Nat) = 2 * 2 := rfl
        rw [this]; ac_rfl
      rw [e] at hI
      have hv : q % 4 = 1 := by omega
      obtain ⟨f, hf⟩ := v2_ex hq.1
      have hf2 := (v2_mod4 hq.1 hf).2.1 hv
      refine hns (special hq (by omega) hf hf2 fun b hb => ?_)
      have hb2 := base_lt hb
      refine (gauss hq (by omega) (base_not (by omega) b hb) (by omega)).1 ?_
      have e2 : (q - 1) / 2 = 2 * t * J := by rw [Nat.mul_assoc]; omega
      have hone : 1 % q = 1 := Nat.mod_eq_of_lt (by omega)
      rw [e2, pow_mul_one (by rw [hk b hb, hone]), hone]
    · exact h
  have hI1' : I = 1 := by
    rcases Nat.lt_or_ge I 2 with h2 | h2
    · omega
    · exfalso
      obtain ⟨l, hl, hlI, _⟩ := least_factor I h2
      have hle := Nat.le_of_dvd (by omega) hlI
      refine rest200_not (tstR_hT q) (by omega) hr hk hI hlI hl (fun hl2 => ?_) (by omega)
      rw [hl2] at hlI
      omega
  rw [hI1', Nat.mul_one] at hI
  rw [hI]; exact hrn

/-- The exponents of q one by one. -/
noncomputable def slowS (p q : Nat) : Bool := ranks q fun r => force r fun r => muls (lastC p q) (Nat.mul p q) (lcmN (Nat.sub p 1) r) (Nat.div 9223372036854775808 (Nat.mul p q))

noncomputable def kS (p p1 q : Nat) : Bool :=
  Bool.rec (motive := fun _ => Bool) true (force q fun q => Bool.rec (motive := fun _ => Bool) (Bool.rec (motive := fun _ => Bool) (slowS p q) (force (Nat.sub q 1) (pairC p q p1)) (rest200 tstR q)) (force (Nat.sub q 1) (pairC p q p1)) (Nat.blt q 11863283)) (Nat.beq (Nat.gcd prodQ q) 1)

/-- p has no small divisor: below 65537 it is a prime then. -/
def cop (p : Nat) : Bool := Nat.beq (Nat.gcd p 7420738134810) 1 && (Nat.ble p 1448 || Nat.beq (Nat.gcd prodT8 p) 1)
theorem cop_prime {p : Nat} (hp : Prime p) (h41 : 41 ≤ p) : cop p = true := by
  unfold cop
  have h1 : Nat.gcd p 7420738134810 = 1 := by
    refine prime_coprime hp ?_
    rw [show 7420738134810 = prodL baseL by decide]
    exact prod_coprime hp _ fun b hb hd => base_not (by omega) b hb hd
  rw [h1]
  rcases Nat.lt_or_ge p 1449 with h | h
  · rw [Nat.ble_eq_true_of_le (show p ≤ 1448 by omega)]; rfl
  · rw [gcdT8 hp h, Bool.or_comm]; rfl

/-- What is asked of a least prime p. -/
noncomputable def sP (rs : List (Grp × Nat)) (W p : Nat) : Bool :=
  Bool.rec (motive := fun _ => Bool) true
    (force (rootN (Nat.div 9223372036854775808 p)) fun h => force (Nat.div (Nat.div 4294967296 p) 8) fun lo => force (Nat.succ (Nat.sub (Nat.div h 8) lo)) fun n => force (Nat.mod p 8) fun a0 => force (Nat.sub p 1) fun p1 =>
      Bool.rec (motive := fun _ => Bool) false (Bool.rec (motive := fun _ => Bool) false
        (build (mk1 fun l => legQ l p) (fun r => allFrom (fun j => force (Nat.add lo (Nat.mul j W)) fun lo => run8 a0 lo W (fun a t => kS p p1 (Nat.add a0 (Nat.add (Nat.mul 8 a) (Nat.mul 8 t)))) r) 0 (Nat.succ (Nat.div n W))) rs [])
        (Nat.ble 1 W)) (Nat.ble 9223372036854775808 (Nat.mul p (Nat.mul h h))))
    (cop p)

theorem sP_spec {rs : List (Grp × Nat)} {W p q w s d : Nat} (hrs : ∀ e ∈ rs, e.1 ∈ ones ∧ e.2 = repD e.1.d (W / e.1.d + 2)) (h : sP rs W p = true) (H : Pass (p * q * w) s d) (hn63 : p * q * w < 9223372036854775808) (hp : Prime p) (hq : Prime q) (hp41 : 41 ≤ p) (hpS : p < 65537)
    (hq16 : 65537 ≤ q) (hqw : q < w) (h32 : 4294967296 ≤ p * q) (h8 : q % 8 = p % 8) (hl : ∀ l ∈ oddB, q % l ≠ 0 ∧ leg l (q % l) = leg l (p % l)) (hns : ¬ Spcl q) (hh : q < 11863283 → (q - 1) / 2 ∣ p * q * w - 1) : False := by
  have hpn : p ∣ p * q * w := ⟨q * w, by rw [Nat.mul_assoc]⟩
  have hqn : q ∣ p * q * w := ⟨p * w, by ac_rfl⟩
  have hpf : (p - 1) ∣ p * q * w - 1 := by
    have hf := (checks.full p hp hp41 hpS).1
    refine hf _ fun b hb => ?_
    have h1 := mod_of_dvd hpn (show b ^ (p * q * w - 1) % (p * q * w) = 1 % (p * q * w) by rw [H.fer b hb, Nat.mod_eq_of_lt (by have := H.two; omega)])
    rw [h1, Nat.mod_eq_of_lt (by omega)]
  have hp0 : ∀ l ∈ oddB, p % l ≠ 0 := fun l hl => by
    have := oddB_lt l hl
    exact prime_mod_ne hp this.1 (by omega)
  unfold sP at h
  rw [cop_prime hp hp41, force_eq, force_eq, force_eq, force_eq, force_eq] at h
  obtain ⟨t, ht⟩ : ∃ t, t = rootN (Nat.div 9223372036854775808 p) := ⟨_, rfl⟩
  rw [← ht] at h
  have h0 : Bool.rec (motive := fun _ => Bool) false (Bool.rec (motive := fun _ => Bool) false
        (build (mk1 fun l => legQ l p) (fun r => allFrom (fun j => force (Nat.add (4294967296 / p / 8) (Nat.mul j W)) fun lo => run8 (p % 8) lo W (fun a x => kS p (p - 1) (Nat.add (p % 8) (Nat.add (Nat.mul 8 a) (Nat.mul 8 x)))) r) 0 (Nat.succ (Nat.div (t / 8 - 4294967296 / p / 8 + 1) W))) rs [])
        (Nat.ble 1 W)) (Nat.ble 9223372036854775808 (Nat.mul p (Nat.mul t t))) = true := h
  cases ht1 : Nat.ble 9223372036854775808 (Nat.mul p (Nat.mul t t)) with
  | false => rw [ht1] at h0; cases h0
  | true =>
    rw [ht1] at h0
    cases ht2 : Nat.ble 1 W with
    | false => rw [ht2] at h0; cases h0
    | true =>
      rw [ht2] at h0
      have k1 : 9223372036854775808 ≤ p * (t * t) := Nat.le_of_ble_eq_true ht1
      have k2 : 1 ≤ W := Nat.le_of_ble_eq_true ht2
      have h1 : build (mk1 fun l => legQ l p) (fun r => allFrom (fun j => force (Nat.add (4294967296 / p / 8) (Nat.mul j W)) fun lo => run8 (p % 8) lo W (fun a x => kS p (p - 1) (Nat.add (p % 8) (Nat.add (Nat.mul 8 a) (Nat.mul 8 x)))) r) 0 (Nat.succ (Nat.div (t / 8 - 4294967296 / p / 8 + 1) W))) rs [] = true := h0
      obtain ⟨rr, h2, h3⟩ := build_spec h1
      have hfit := fit_of hrs h3
      have hlo : 4294967296 / p ≤ q := by
        have h3 : 4294967296 / p ≤ p * q / p := Nat.div_le_div_right h32
        rwa [Nat.mul_div_cancel_left _ (by omega)] at h3
      have hhi : q < t := by
        refine root_lt k1 ?_
        have h6 : p * (q * q) ≤ p * (q * w) := Nat.mul_le_mul_left _ (Nat.mul_le_mul_left _ (by omega))
        rw [← Nat.mul_assoc p q w] at h6
        omega
      have h8q : q / 8 ≤ t / 8 := Nat.div_le_div_right (by omega)
      have h8l : 4294967296 / p / 8 ≤ q / 8 := Nat.div_le_div_right hlo
      have hu : p % 8 + 8 * (q / 8) = q := by omega
      obtain ⟨lo, hlo0⟩ : ∃ lo, lo = 4294967296 / p / 8 := ⟨_, rfl⟩
      rw [← hlo0] at h2 h8l
      have hj : (q / 8 - lo) / W ≤ (t / 8 - lo + 1) / W := Nat.div_le_div_right (by omega)
      have h2' := allFrom_spec h2 ((q / 8 - lo) / W) (by
        show (q / 8 - lo) / W < (t / 8 - lo + 1) / W + 1
        omega)
      rw [Nat.zero_add, force_eq] at h2'
      have hjm := Nat.div_add_mod (q / 8 - lo) W
      have hjl := Nat.mod_lt (q / 8 - lo) (show 0 < W by omega)
      have ej : Nat.add lo (Nat.mul ((q / 8 - lo) / W) W) = lo + W * ((q / 8 - lo) / W) := by
        show lo + (q / 8 - lo) / W * W = _
        rw [Nat.mul_comm]
      rw [ej] at h2'
      obtain ⟨a, x, h6, h7⟩ := run8_spec (k := q / 8) hfit (by omega) h2' (by omega) (by omega) (lets_mk1 fun l hl' => by rw [hu, legQ_eq hl' (hp0 l hl')]; exact hl l hl')
      have e : Nat.add (p % 8) (Nat.add (Nat.mul 8 a) (Nat.mul 8 x)) = q := by
        show p % 8 + (8 * a + 8 * x) = q
        omega
      rw [e] at h7
      have hqB : q < 536870912 := by
        rcases Nat.lt_or_ge q 536870912 with h9 | h9
        · exact h9
        · exfalso
          have h10 : 41 * (536870912 * 536870912) ≤ p * (q * w) := Nat.mul_le_mul hp41 (Nat.mul_le_mul h9 (by omega))
          rw [← Nat.mul_assoc p q w] at h10
          omega
      unfold kS at h7
      rw [gcdQ hq (by omega), force_eq, force_eq] at h7
      have h9' : Bool.rec (motive := fun _ => Bool) (Bool.rec (motive := fun _ => Bool) (slowS p q) (pairC p q (p - 1) (q - 1)) (rest200 tstR q)) (pairC p q (p - 1) (q - 1)) (Nat.blt q 11863283) = true := h7
      cases hq11 : Nat.blt q 11863283 with
      | true =>
        rw [hq11] at h9'
        exact pairC_spec h9' (by omega) (by omega) hqw (by omega) (by omega) (Nat.dvd_refl _) (Nat.dvd_refl _) hn63 hpf (whole_prime H hq (by omega) hqn (hh (Nat.le_of_ble_eq_true hq11)) hns) H
      | false =>
      rw [hq11] at h9'
      have h9 : Bool.rec (motive := fun _ => Bool) (slowS p q) (pairC p q (p - 1) (q - 1)) (rest200 tstR q) = true := h9'
      cases hr : rest200 tstR q with
      | true =>
        rw [hr] at h9
        exact pairC_spec h9 (by omega) (by omega) hqw (by omega) (by omega) (Nat.dvd_refl _) (Nat.dvd_refl _) hn63 hpf (whole_ns H hq hq16 hqB hqn hr hns) H
      | false =>
        rw [hr] at h9
        have h10 : slowS p q = true := h9
        unfold slowS at h10
        have h11 := ranks_spec h10 H hq (by omega) hqn
        rw [force_eq, lcmN_eq] at h11
        have hr1 := (rank_even H hq (by omega)).2
        have hL2 : 2 ≤ Nat.lcm (Nat.sub p 1) (Nat.gcd (q - 1) (p * q * w - 1)) := by
          have h12 : (p - 1) ∣ Nat.lcm (p - 1) (Nat.gcd (q - 1) (p * q * w - 1)) := Nat.dvd_lcm_left _ _
          have := Nat.le_of_dvd (Nat.lcm_pos (by omega) hr1) h12
          show 2 ≤ Nat.lcm (p - 1) (Nat.gcd (q - 1) (p * q * w - 1))
          omega
        have h13 := muls_spec (m := w) h11 hL2 (by
          show w ≤ 9223372036854775808 / (p * q)
          rw [Nat.le_div_iff_mul_le (Nat.mul_pos (by omega) (by omega)), Nat.mul_comm]; omega) (Nat.lcm_dvd hpf (Nat.gcd_dvd_right _ _)) (by have := H.two; show 1 ≤ p * q * w; omega)
        unfold lastC at h13
        rw [ble_false (by omega), Bool.false_or, force_eq] at h13
        exact sfail_not h13 H

/-- Least primes p0, p0 + 2, .. : n numbers. -/
noncomputable def sB (W p0 n : Nat) : Bool := reps W (fun rs => allFrom (fun t => force (Nat.add p0 (Nat.mul 2 t)) (sP rs W)) 0 n) ones []

theorem sB_spec {W p0 n p : Nat} (h : sB W p0 n = true) (h1 : p0 ≤ p) (h2 : p < p0 + 2 * n) (h3 : (p - p0) % 2 = 0) : ∃ rs W, (∀ e ∈ rs, e.1 ∈ ones ∧ e.2 = repD e.1.d (W / e.1.d + 2)) ∧ sP rs W p = true := by
  unfold sB at h
  obtain ⟨rs, h4, h5⟩ := reps_spec h
  refine ⟨rs, W, fun e he => ?_, ?_⟩
  · rcases h5 e he with h6 | h6
    · simp at h6
    · exact h6
  · have h6 := allFrom_spec h4 ((p - p0) / 2) (by omega)
    rw [Nat.zero_add, force_eq] at h6
    have e : Nat.add p0 (Nat.mul 2 ((p - p0) / 2)) = p := by
      show p0 + 2 * ((p - p0) / 2) = p
      omega
    rw [e] at h6
    exact h6
end Go.Proofs.YtpphfeinmmmckaaDoor
