/-
  Plain: three primes of a number, the greatest above 2^32: the check for one least prime p.
-/
import Derived.Test.YtpphfeinmmmckaaDoorMFar
import Derived.Test.YtpphfeinmmmckaaDoorMTri
namespace Go.Proofs.YtpphfeinmmmckaaDoor
open Nt

/-- What is asked of a great prime m whose exponent may be great enough. -/
noncomputable def slowF (a m : Nat) : Bool := tst3 m (Nat.gcd (Nat.sub m 1) (Nat.sub a 1)) || force (Nat.mul a m) sfail

/-- All m = c + L i, n of them. -/
noncomputable def loopF (a A c L : Nat) (n : Nat) : Bool :=
  Nat.rec (motive := fun _ => Bool) true (fun i ih => Bool.rec (motive := fun _ => Bool) (Bool.rec (motive := fun _ => Bool) false ih (force (Nat.add c (Nat.mul L i)) (slowF a))) ih (Nat.blt (Nat.gcd (Nat.sub (Nat.add c (Nat.mul L i)) 1) A) 7635798)) n

theorem loopF_spec {a A c L : Nat} : ∀ {n : Nat}, loopF a A c L n = true → ∀ i, i < n → 7635798 ≤ Nat.gcd (c + L * i - 1) A → slowF a (c + L * i) = true
  | 0, _, i, hi, _ => absurd hi (Nat.not_lt_zero _)
  | n + 1, h, i, hi, hg => by
    have h' : Bool.rec (motive := fun _ => Bool) (Bool.rec (motive := fun _ => Bool) false (loopF a A c L n) (force (Nat.add c (Nat.mul L n)) (slowF a))) (loopF a A c L n) (Nat.blt (Nat.gcd (Nat.sub (Nat.add c (Nat.mul L n)) 1) A) 7635798) = true := h
    rw [force_eq] at h'
    cases hb : Nat.blt (Nat.gcd (Nat.sub (Nat.add c (Nat.mul L n)) 1) A) 7635798 with
    | true =>
      rw [hb] at h'
      rcases Nat.lt_succ_iff_lt_or_eq.1 hi with h1 | rfl
      · exact loopF_spec (n := n) h' i h1 hg
      · exfalso
        have h2 : Nat.gcd (c + L * i - 1) A < 7635798 := Nat.le_of_ble_eq_true hb
        omega
    | false =>
      rw [hb] at h'
      cases hc : slowF a (Nat.add c (Nat.mul L n)) with
      | false => rw [hc] at h'; cases h'
      | true =>
        rw [hc] at h'
        rcases Nat.lt_succ_iff_lt_or_eq.1 hi with h1 | rfl
        · exact loopF_spec (n := n) h' i h1 hg
        · exact hc

/-- By the exponents of the great prime. -/
noncomputable def byS (a L M : Nat) : Bool :=
  allFrom (fun j => force (Nat.succ j) fun s => !(Nat.beq (Nat.mod (Nat.sub a 1) s) 0) || force (Nat.div (Nat.sub a 1) s) fun r => muls (fun m => Nat.ble m 4294967296 || (tst3 m r || force (Nat.mul a m) sfail)) a (lcmN L r) M) 0 (Nat.div (Nat.sub a 1) 7635798)

/-- By the inverse of a modulo L. -/
noncomputable def byC (a L M c : Nat) : Bool :=
  Bool.rec (motive := fun _ => Bool) false (Bool.rec (motive := fun _ => Bool) false
    (force (Nat.div 4294967296 L) fun t0 => force (Nat.add c (Nat.mul L t0)) fun c' => loopF a (Nat.sub a 1) c' L (Nat.succ (Nat.sub (Nat.div M L) t0)))
    (Nat.beq (Nat.mod (Nat.mul a c) L) 1)) (Nat.blt c L)

noncomputable def pairF (p q r : Nat) : Bool :=
  force (Nat.mul p q) fun a => force (lcmN (Nat.sub p 1) r) fun L => force (Nat.div 9223372036854775808 a) fun M =>
    Bool.rec (motive := fun _ => Bool) true (Bool.rec (motive := fun _ => Bool) (force (invL L 100 L (Nat.mod a L) 0 1) (byC a L M)) (byS a L M) (Nat.blt 300 (Nat.sub (Nat.div M L) (Nat.div 4294967296 L)))) (Nat.beq (Nat.gcd a L) 1)

noncomputable def kF (p q : Nat) : Bool := Nat.ble q p || !(Nat.beq (pow3 2 (Nat.sub q 1) q) 1) || ranksG q (pairF p q)

/-- What is asked of a least prime p. -/
noncomputable def caP (rs : List (Grp × Nat)) (W p : Nat) : Bool :=
  !(Nat.beq (pow3 2 (Nat.sub p 1) p) 1) || force (Nat.div p 8) fun l1 => force (Nat.add l1 (Nat.sub (Nat.div (Nat.div 7635798 p) 8) l1)) fun lo => force (Nat.succ (Nat.sub (Nat.div (Nat.div 2147483648 p) 8) lo)) fun n =>
    Nat.ble n W && both rs p lo n (kF p)

theorem pairF_spec {p q w s d : Nat} (H : Pass (p * q * w) s d) (hn63 : p * q * w < 9223372036854775808) (hp41 : 41 ≤ p) (hq : Prime q) (hpq : p < q) (hw : Prime w) (hw32 : 4294967296 < w) (hpf : (p - 1) ∣ p * q * w - 1)
    (h : pairF p q (Nat.gcd (q - 1) (p * q * w - 1)) = true) : False := by
  obtain ⟨r, hr⟩ : ∃ r, r = Nat.gcd (q - 1) (p * q * w - 1) := ⟨_, rfl⟩
  have hr1 := (rank_even H hq (by omega)).2
  have hrn : r ∣ p * q * w - 1 := by rw [hr]; exact Nat.gcd_dvd_right _ _
  rw [← hr] at h hr1
  obtain ⟨a, ha⟩ : ∃ a, a = p * q := ⟨_, rfl⟩
  have ha2 : 1681 ≤ a := by rw [ha]; exact Nat.mul_le_mul hp41 (by omega : 41 ≤ q)
  have hwn : w ∣ p * q * w := Nat.dvd_mul_left _ _
  unfold pairF at h
  rw [force_eq, force_eq, force_eq, lcmN_eq] at h
  have ea : Nat.mul p q = a := ha.symm
  rw [ea] at h
  rw [← ha] at H hn63 hpf hrn hwn
  have e1 : Nat.sub p 1 = p - 1 := rfl
  rw [e1] at h
  obtain ⟨L, hL⟩ : ∃ L, L = Nat.lcm (p - 1) r := ⟨_, rfl⟩
  rw [← hL] at h
  have hLn : L ∣ a * w - 1 := by rw [hL]; exact Nat.lcm_dvd hpf hrn
  have hL2 : 2 ≤ L := by
    have h6 : (p - 1) ∣ L := by rw [hL]; exact Nat.dvd_lcm_left _ _
    have h7 : 0 < L := by rw [hL]; exact Nat.lcm_pos (by omega) hr1
    have := Nat.le_of_dvd h7 h6
    omega
  obtain ⟨M, hM⟩ : ∃ M, M = 9223372036854775808 / a := ⟨_, rfl⟩
  have eM : Nat.div 9223372036854775808 a = M := hM.symm
  rw [eM] at h
  have hwM : w ≤ M := by
    rw [hM, Nat.le_div_iff_mul_le (by omega), Nat.mul_comm]; omega
  have haw0 : 1 ≤ a * w := Nat.mul_pos (by omega) (by omega)
  -- a is prime to L
  obtain ⟨u, hu⟩ := hLn
  have hLn : L ∣ a * w - 1 := ⟨u, hu⟩
  have e2 : a * w = 1 + L * u := by omega
  have hmod : a * w % L = 1 := by rw [e2, Nat.add_mul_mod_self_left, Nat.mod_eq_of_lt (by omega)]
  have hg : Nat.gcd a L = 1 := by
    have h3 : Nat.gcd a L ∣ a * w := Nat.dvd_trans (Nat.gcd_dvd_left _ _) (Nat.dvd_mul_right _ _)
    have h4 : Nat.gcd a L ∣ L * u := Nat.dvd_trans (Nat.gcd_dvd_right _ _) (Nat.dvd_mul_right _ _)
    have h5 : Nat.gcd a L ∣ a * w - L * u := Nat.dvd_sub h3 h4
    rw [show a * w - L * u = 1 by omega] at h5
    exact Nat.dvd_one.1 h5
  rw [hg] at h
  -- the exponent at w
  have hcr := thr_le (W := 4294967296) (c := 7635798) (X := 46340) thu0 H hw (by omega) hwn hw32
  have hrw : Nat.gcd (w - 1) (a * w - 1) = Nat.gcd (w - 1) (a - 1) := (two_rank (q := a) (w := w) (by omega) (by omega)).1
  have hkw := kills_prime H hw (by omega) hwn
  rw [hrw] at hcr hkw
  have hslow : slowF a w = true → False := by
    intro hs
    unfold slowF at hs
    rw [Bool.or_eq_true, force_eq] at hs
    rcases hs with h1 | h1
    · exact tst3_not h1 hkw
    · exact sfail_not h1 H
  have h' : Bool.rec (motive := fun _ => Bool) (force (invL L 100 L (Nat.mod a L) 0 1) (byC a L M)) (byS a L M) (Nat.blt 300 (Nat.sub (Nat.div M L) (Nat.div 4294967296 L))) = true := h
  cases hb : Nat.blt 300 (Nat.sub (Nat.div M L) (Nat.div 4294967296 L)) with
  | false =>
    rw [hb] at h'
    have h1 : force (invL L 100 L (Nat.mod a L) 0 1) (byC a L M) = true := h'
    rw [force_eq] at h1
    generalize invL L 100 L (Nat.mod a L) 0 1 = c at h1
    unfold byC at h1
    cases hc1 : Nat.blt c L with
    | false => rw [hc1] at h1; cases h1
    | true =>
      rw [hc1] at h1
      cases hc2 : Nat.beq (Nat.mod (Nat.mul a c) L) 1 with
      | false => rw [hc2] at h1; cases h1
      | true =>
        rw [hc2] at h1
        have hcL : c < L := Nat.le_of_ble_eq_true hc1
        have hac : a * c % L = 1 := Nat.eq_of_beq_eq_true hc2
        have h2 : (force (Nat.div 4294967296 L) fun t0 => force (Nat.add c (Nat.mul L t0)) fun c' => loopF a (Nat.sub a 1) c' L (Nat.succ (Nat.sub (Nat.div M L) t0))) = true := h1
        rw [force_eq, force_eq] at h2
        have e3 : w * (a * c) % L = w % L := by rw [Nat.mul_mod, hac, Nat.mul_one, Nat.mod_mod]
        have e4 : c * (a * w) % L = c % L := by rw [Nat.mul_mod, hmod, Nat.mul_one, Nat.mod_mod]
        have e5 : w % L = c := by
          rw [← e3, show w * (a * c) = c * (a * w) by ac_rfl, e4, Nat.mod_eq_of_lt hcL]
        have e6 : w = c + L * (w / L) := by rw [← e5, Nat.mod_add_div]
        have ht0 : 4294967296 / L ≤ w / L := Nat.div_le_div_right (by omega)
        have htM : w / L ≤ M / L := Nat.div_le_div_right hwM
        have em : Nat.add c (Nat.mul L (Nat.div 4294967296 L)) + L * (w / L - 4294967296 / L) = w := by
          show c + L * (4294967296 / L) + L * (w / L - 4294967296 / L) = w
          have : L * (4294967296 / L) + L * (w / L - 4294967296 / L) = L * (w / L) := by rw [← Nat.mul_add]; congr 1; omega
          omega
        have h3 := loopF_spec h2 (w / L - 4294967296 / L) (by
          show w / L - 4294967296 / L < M / L - 4294967296 / L + 1
          omega) (by rw [em]; exact hcr)
        rw [em] at h3
        exact hslow h3
  | true =>
    rw [hb] at h'
    have h1 : byS a L M = true := h'
    unfold byS at h1
    obtain ⟨r', hr'⟩ : ∃ r', r' = Nat.gcd (w - 1) (a - 1) := ⟨_, rfl⟩
    rw [← hr'] at hcr hkw
    obtain ⟨x, hx⟩ : r' ∣ a - 1 := by rw [hr']; exact Nat.gcd_dvd_right _ _
    have hrw1 : r' ∣ w - 1 := by rw [hr']; exact Nat.gcd_dvd_left _ _
    have hx0 : 1 ≤ x := by
      rcases x with _ | x
      · rw [Nat.mul_zero] at hx; omega
      · omega
    have hxS : x ≤ (a - 1) / 7635798 := by
      rw [Nat.le_div_iff_mul_le (by omega), hx, Nat.mul_comm]
      exact Nat.mul_le_mul_right _ hcr
    have h2 := allFrom_spec h1 (x - 1) (by show x - 1 < (a - 1) / 7635798; omega)
    rw [Nat.zero_add, force_eq] at h2
    have ex : Nat.succ (x - 1) = x := by omega
    rw [ex, force_eq, lcmN_eq] at h2
    have ea1 : Nat.sub a 1 = r' * x := hx
    have e3 : Nat.mod (Nat.sub a 1) x = 0 := by rw [ea1]; exact Nat.mul_mod_left _ _
    have e4 : Nat.div (Nat.sub a 1) x = r' := by rw [ea1]; exact Nat.mul_div_cancel _ hx0
    rw [e3, e4] at h2
    have h3 : muls (fun m => Nat.ble m 4294967296 || (tst3 m r' || force (Nat.mul a m) sfail)) a (Nat.lcm L r') M = true := h2
    have hL2' : 2 ≤ Nat.lcm L r' := by
      have h11 : L ∣ Nat.lcm L r' := Nat.dvd_lcm_left _ _
      have := Nat.le_of_dvd (Nat.lcm_pos (by omega) (by omega)) h11
      omega
    have hra : r' ∣ a * w - 1 := by
      obtain ⟨y, hy⟩ := hrw1
      obtain ⟨v, hv⟩ : ∃ v, a = v + 1 := ⟨a - 1, by omega⟩
      have e5 : a * w - 1 = (a - 1) * w + (w - 1) := by
        rw [hv, Nat.add_sub_cancel, Nat.add_mul, Nat.one_mul]; omega
      rw [e5, hx, hy]
      exact ⟨x * w + y, by rw [Nat.mul_add, Nat.mul_assoc]⟩
    have h4 := muls_spec (m := w) h3 hL2' hwM (Nat.lcm_dvd hLn hra) haw0
    rw [ble_false (by omega), Bool.false_or, Bool.or_eq_true, force_eq] at h4
    rcases h4 with h5 | h5
    · exact tst3_not h5 hkw
    · exact sfail_not h5 H

theorem caP_spec {rs : List (Grp × Nat)} {W p q w s d : Nat} (hrs : ∀ e ∈ rs, e.1 ∈ ones ∧ e.2 = repD e.1.d (W / e.1.d + 2)) (h : caP rs W p = true) (hpl : plain p = true) (H : Pass (p * q * w) s d) (hn63 : p * q * w < 9223372036854775808)
    (hp : Prime p) (hp41 : 41 ≤ p) (hpS : p < 65537) (hq : Prime q) (hpq : p < q) (hw : Prime w) (hw32 : 4294967296 < w) : False := by
  have hpn : p ∣ p * q * w := ⟨q * w, by rw [Nat.mul_assoc]⟩
  have hqn : q ∣ p * q * w := ⟨p * w, by ac_rfl⟩
  have hwn : w ∣ p * q * w := Nat.dvd_mul_left _ _
  have hpf : (p - 1) ∣ p * q * w - 1 := by
    have hf := (checks.full p hp hp41 hpS).1
    refine hf _ fun b hb => ?_
    have h1 := mod_of_dvd hpn (show b ^ (p * q * w - 1) % (p * q * w) = 1 % (p * q * w) by rw [H.fer b hb, Nat.mod_eq_of_lt (by have := H.two; omega)])
    rw [h1, Nat.mod_eq_of_lt (by omega)]
  unfold caP at h
  have h1 := fermat_not hp (by omega) h
  rw [force_eq, force_eq, force_eq, Bool.and_eq_true] at h1
  obtain ⟨hW, h2⟩ := h1
  obtain ⟨lo, hlo⟩ : ∃ lo, lo = p / 8 + (7635798 / p / 8 - p / 8) := ⟨_, rfl⟩
  have elo : Nat.add (Nat.div p 8) (Nat.sub (Nat.div (Nat.div 7635798 p) 8) (Nat.div p 8)) = lo := hlo.symm
  rw [elo] at h2 hW
  have hp0 : ∀ l ∈ oddB, p % l ≠ 0 := fun l hl => by
    have := oddB_lt l hl
    exact prime_mod_ne hp this.1 (by omega)
  have hpq0 : 0 < p * q := Nat.mul_pos (by omega) (by omega)
  have hcr := thr_le (W := 4294967296) (c := 7635798) (X := 46340) thu0 H hw (by omega) hwn hw32
  have hrw : Nat.gcd (w - 1) (p * q * w - 1) = Nat.gcd (w - 1) (p * q - 1) := (two_rank (q := p * q) (w := w) (by have := Nat.le_mul_of_pos_left q (show 0 < p by omega); omega) (by omega)).1
  rw [hrw] at hcr
  have hle := Nat.le_of_dvd (by
    have := Nat.mul_le_mul hp41 (show 41 ≤ q by omega)
    omega) (Nat.gcd_dvd_right (w - 1) (p * q - 1))
  have hlq : 7635798 / p ≤ q := by
    have h3 : 7635798 / p ≤ p * q / p := Nat.div_le_div_right (by omega)
    rwa [Nat.mul_div_cancel_left _ (by omega)] at h3
  have hqQ : q ≤ 2147483648 / p := by
    rw [Nat.le_div_iff_mul_le (by omega), Nat.mul_comm]
    rcases Nat.lt_or_ge (p * q) 2147483649 with h3 | h3
    · omega
    · exfalso
      have : 2147483649 * 4294967297 ≤ p * q * w := Nat.mul_le_mul h3 hw32
      omega
  have h8a : p / 8 ≤ q / 8 := Nat.div_le_div_right (by omega)
  have h8b : 7635798 / p / 8 ≤ q / 8 := Nat.div_le_div_right hlq
  have h8c : q / 8 ≤ 2147483648 / p / 8 := Nat.div_le_div_right hqQ
  have hn : Nat.succ (Nat.sub (Nat.div (Nat.div 2147483648 p) 8) lo) = 2147483648 / p / 8 - lo + 1 := rfl
  rw [hn] at h2 hW
  have hW' : 2147483648 / p / 8 - lo + 1 ≤ W := Nat.le_of_ble_eq_true hW
  have hqk := two_kinds H hp hq hp41 (by omega) hpn hqn hpl
  have h3 := both_spec (u := q) hp0 hrs (by omega) h2 (by omega) (by omega) hqk
  unfold kF at h3
  rw [ble_false (by omega), Bool.false_or] at h3
  have h4 := fermat_not hq (by omega) h3
  have h5 := ranksG_spec h4 H hq (by omega) hqn
  exact pairF_spec H hn63 hp41 hq hpq hw hw32 hpf h5

/-- Least primes p0, p0 + 2, .. : n numbers. -/
noncomputable def caB (W p0 n : Nat) : Bool := reps W (fun rs => allFrom (fun t => force (Nat.add p0 (Nat.mul 2 t)) (caP rs W)) 0 n) ones []

theorem caB_spec {W p0 n p : Nat} (h : caB W p0 n = true) (h1 : p0 ≤ p) (h2 : p < p0 + 2 * n) (h3 : (p - p0) % 2 = 0) : ∃ rs W, (∀ e ∈ rs, e.1 ∈ ones ∧ e.2 = repD e.1.d (W / e.1.d + 2)) ∧ caP rs W p = true := by
  unfold caB at h
  obtain ⟨rs, h4, h5⟩ := reps_spec h
  refine ⟨rs, W, fun e he => ?_, ?_⟩
  · rcases h5 e he with h6 | h6
    · simp at h6
    · exact h6
  · have h6 := allFrom_spec h4 ((p - p0) / 2) (by omega)
    rw [Nat.zero_add, force_eq] at h6
    have e : Nat.add p0 (Nat.mul 2 ((p - p0) / 2)) = p := by
      show p0 + 2 * ((p - p0) / 2) = p
      omega
    rw [e] at h6
    exact h6
end Go.Proofs.YtpphfeinmmmckaaDoor
