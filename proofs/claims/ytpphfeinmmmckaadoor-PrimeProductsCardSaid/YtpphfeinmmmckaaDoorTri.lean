/-
  Plain: numbers of three primes or more that pass the strong tests: the check of all that have p as their least prime.
-/
import Derived.Test.YtpphfeinmmmckaaDoorSpec
import Derived.Test.YtpphfeinmmmckaaDoorSq
namespace Go.Proofs.YtpphfeinmmmckaaDoor
open Nt

/-- Euclid's rule: a number that, times the second, is the gcd modulo L. -/
def invL (L : Nat) : Nat → Nat → Nat → Nat → Nat → Nat
  | 0, _, _, t0, _ => t0
  | f + 1, r0, r1, t0, t1 => bif Nat.beq r1 0 then t0 else
    force (Nat.mod r0 r1) fun r2 => force (Nat.mod (Nat.add t0 (Nat.mul (Nat.sub L (Nat.mod (Nat.div r0 r1) L)) t1)) L) fun t2 => invL L f r1 r2 t1 t2

/-- Every m up to M with a m = 1 modulo L meets f. -/
noncomputable def mulsB (f : Nat → Bool) (a L M c : Nat) : Bool :=
  Nat.blt c L && (Nat.beq (Nat.mod (Nat.mul a c) L) 1 && allFrom (fun t => Nat.blt M (Nat.add c (Nat.mul L t)) || f (Nat.add c (Nat.mul L t))) 0 (Nat.succ (Nat.div M L)))
noncomputable def muls (f : Nat → Bool) (a L M : Nat) : Bool :=
  !(Nat.beq (Nat.gcd a L) 1) || force (invL L 100 L (Nat.mod a L) 0 1) (mulsB f a L M)

theorem muls_spec {f : Nat → Bool} {a L M m : Nat} (h : muls f a L M = true) (hL : 2 ≤ L) (hm : m ≤ M) (h1 : L ∣ a * m - 1) (h0 : 1 ≤ a * m) : f m = true := by
  obtain ⟨u, hu⟩ := h1
  have e1 : a * m = 1 + L * u := by omega
  have hmod : a * m % L = 1 := by rw [e1, Nat.add_mul_mod_self_left, Nat.mod_eq_of_lt (by omega)]
  have hg : Nat.gcd a L = 1 := by
    have h3 : Nat.gcd a L ∣ a * m := Nat.dvd_trans (Nat.gcd_dvd_left _ _) (Nat.dvd_mul_right _ _)
    have h4 : Nat.gcd a L ∣ L * u := Nat.dvd_trans (Nat.gcd_dvd_right _ _) (Nat.dvd_mul_right _ _)
    have h5 : Nat.gcd a L ∣ a * m - L * u := Nat.dvd_sub h3 h4
    rw [show a * m - L * u = 1 by omega] at h5
    exact Nat.dvd_one.1 h5
  unfold muls at h
  rw [hg, force_eq] at h
  obtain ⟨c, hc⟩ : ∃ c, c = invL L 100 L (Nat.mod a L) 0 1 := ⟨_, rfl⟩
  rw [← hc] at h
  have h' : mulsB f a L M c = true := h
  unfold mulsB at h'
  rw [Bool.and_eq_true, Bool.and_eq_true] at h'
  obtain ⟨h2, h3, h4⟩ := h'
  have hcL : c < L := Nat.le_of_ble_eq_true h2
  have hac : a * c % L = 1 := Nat.eq_of_beq_eq_true h3
  have e2 : m * (a * c) % L = m % L := by rw [Nat.mul_mod, hac, Nat.mul_one, Nat.mod_mod]
  have e3 : c * (a * m) % L = c % L := by rw [Nat.mul_mod, hmod, Nat.mul_one, Nat.mod_mod]
  have e4 : m % L = c := by
    rw [← e2, show m * (a * c) = c * (a * m) by ac_rfl, e3, Nat.mod_eq_of_lt hcL]
  have e5 : m = c + L * (m / L) := by rw [← e4, Nat.mod_add_div]
  have h5 := allFrom_spec h4 (m / L) (Nat.lt_succ_of_le (Nat.div_le_div_right hm))
  rw [Nat.zero_add] at h5
  have e6 : Nat.add c (Nat.mul L (m / L)) = m := e5.symm
  rw [e6, Bool.or_eq_true] at h5
  rcases h5 with h6 | h6
  · have : M < m := Nat.le_of_ble_eq_true h6
    omega
  · exact h6

/-- All m = c + 1 + L t, t from t0 on, n of them: the gcd of m - 1 and A is small, or m is asked. -/
noncomputable def quick (slow : Nat → Bool) (A c0 c L t0 n : Nat) : Bool :=
  force (Nat.add c (Nat.mul L t0)) fun c' =>
  Nat.rec (motive := fun _ => Bool) true (fun i ih => Bool.rec (motive := fun _ => Bool) (Bool.rec (motive := fun _ => Bool) false ih (slow (Nat.succ (Nat.add c' (Nat.mul L i))))) ih (Nat.blt (Nat.gcd (Nat.add c' (Nat.mul L i)) A) c0)) n

theorem quick_all {slow : Nat → Bool} {A c0 c' L : Nat} : ∀ {n : Nat},
    Nat.rec (motive := fun _ => Bool) true (fun i ih => Bool.rec (motive := fun _ => Bool) (Bool.rec (motive := fun _ => Bool) false ih (slow (Nat.succ (Nat.add c' (Nat.mul L i))))) ih (Nat.blt (Nat.gcd (Nat.add c' (Nat.mul L i)) A) c0)) n = true →
    ∀ i, i < n → slow (c' + L * i + 1) = true ∨ Nat.gcd (c' + L * i) A < c0
  | 0, _, i, hi => absurd hi (Nat.not_lt_zero _)
  | n + 1, h, i, hi => by
    have h' : Bool.rec (motive := fun _ => Bool) (Bool.rec (motive := fun _ => Bool) false (Nat.rec (motive := fun _ => Bool) true (fun i ih => Bool.rec (motive := fun _ => Bool) (Bool.rec (motive := fun _ => Bool) false ih (slow (Nat.succ (Nat.add c' (Nat.mul L i))))) ih (Nat.blt (Nat.gcd (Nat.add c' (Nat.mul L i)) A) c0)) n) (slow (Nat.succ (Nat.add c' (Nat.mul L n)))))
      (Nat.rec (motive := fun _ => Bool) true (fun i ih => Bool.rec (motive := fun _ => Bool) (Bool.rec (motive := fun _ => Bool) false ih (slow (Nat.succ (Nat.add c' (Nat.mul L i))))) ih (Nat.blt (Nat.gcd (Nat.add c' (Nat.mul L i)) A) c0)) n) (Nat.blt (Nat.gcd (Nat.add c' (Nat.mul L n)) A) c0) = true := h
    cases hb : Nat.blt (Nat.gcd (Nat.add c' (Nat.mul L n)) A) c0 with
    | true =>
      rw [hb] at h'
      rcases Nat.lt_succ_iff_lt_or_eq.1 hi with h1 | rfl
      · exact quick_all h' i h1
      · exact .inr (Nat.le_of_ble_eq_true hb)
    | false =>
      rw [hb] at h'
      cases hs : slow (Nat.succ (Nat.add c' (Nat.mul L n))) with
      | false => rw [hs] at h'; cases h'
      | true =>
        rw [hs] at h'
        rcases Nat.lt_succ_iff_lt_or_eq.1 hi with h1 | rfl
        · exact quick_all h' i h1
        · exact .inl hs

noncomputable def mulsQB (slow : Nat → Bool) (A c0 : Nat) (a L M c : Nat) : Bool :=
  Nat.blt c L && (Nat.ble 1 c && (Nat.beq (Nat.mod (Nat.mul a c) L) 1 &&
    force (Nat.succ (Nat.div thrE16.W L)) fun t0 => allFrom (fun t => slow (Nat.add c (Nat.mul L t))) 0 t0 && quick slow A c0 (Nat.sub c 1) L t0 (Nat.sub (Nat.succ (Nat.div (Nat.sub M c) L)) t0)))
noncomputable def mulsQ (slow : Nat → Bool) (A c0 a L M : Nat) : Bool :=
  !(Nat.beq (Nat.gcd a L) 1) || force (invL L 100 L (Nat.mod a L) 0 1) (mulsQB slow A c0 a L M)

theorem mulsQ_spec {slow : Nat → Bool} {A c0 a L M m : Nat} (h : mulsQ slow A c0 a L M = true) (hL : 2 ≤ L) (hm : m ≤ M) (h1 : L ∣ a * m - 1) (h0 : 1 ≤ a * m) : slow m = true ∨ (thrE16.W < m ∧ Nat.gcd (m - 1) A < c0) := by
  obtain ⟨u, hu⟩ := h1
  have e1 : a * m = 1 + L * u := by omega
  have hmod : a * m % L = 1 := by rw [e1, Nat.add_mul_mod_self_left, Nat.mod_eq_of_lt (by omega)]
  have hg : Nat.gcd a L = 1 := by
    have h3 : Nat.gcd a L ∣ a * m := Nat.dvd_trans (Nat.gcd_dvd_left _ _) (Nat.dvd_mul_right _ _)
    have h4 : Nat.gcd a L ∣ L * u := Nat.dvd_trans (Nat.gcd_dvd_right _ _) (Nat.dvd_mul_right _ _)
    have h5 : Nat.gcd a L ∣ a * m - L * u := Nat.dvd_sub h3 h4
    rw [show a * m - L * u = 1 by omega] at h5
    exact Nat.dvd_one.1 h5
  unfold mulsQ at h
  rw [hg, force_eq] at h
  obtain ⟨c, hc⟩ : ∃ c, c = invL L 100 L (Nat.mod a L) 0 1 := ⟨_, rfl⟩
  rw [← hc] at h
  have h' : mulsQB slow A c0 a L M c = true := h
  unfold mulsQB at h'
  rw [force_eq, Bool.and_eq_true, Bool.and_eq_true, Bool.and_eq_true, Bool.and_eq_true] at h'
  obtain ⟨h2, hc1, h3, h4, h5⟩ := h'
  have hcL : c < L := Nat.le_of_ble_eq_true h2
  have hc1' : 1 ≤ c := Nat.le_of_ble_eq_true hc1
  have hac : a * c % L = 1 := Nat.eq_of_beq_eq_true h3
  have e2 : m * (a * c) % L = m % L := by rw [Nat.mul_mod, hac, Nat.mul_one, Nat.mod_mod]
  have e3 : c * (a * m) % L = c % L := by rw [Nat.mul_mod, hmod, Nat.mul_one, Nat.mod_mod]
  have e4 : m % L = c := by
    rw [← e2, show m * (a * c) = c * (a * m) by ac_rfl, e3, Nat.mod_eq_of_lt hcL]
  have e5 : m = c + L * (m / L) := by rw [← e4, Nat.mod_add_div]
  obtain ⟨t0, ht0⟩ : ∃ t0, t0 = Nat.succ (Nat.div thrE16.W L) := ⟨_, rfl⟩
  rw [← ht0] at h4 h5
  rcases Nat.lt_or_ge (m / L) t0 with h6 | h6
  · left
    have h7 := allFrom_spec h4 (m / L) h6
    rw [Nat.zero_add] at h7
    have e6 : Nat.add c (Nat.mul L (m / L)) = m := e5.symm
    rwa [e6] at h7
  · unfold quick at h5
    rw [force_eq] at h5
    have hmL : m / L ≤ (M - c) / L := by
      rw [Nat.le_div_iff_mul_le (by omega), Nat.mul_comm]; omega
    have h7 := quick_all h5 (m / L - t0) (by show m / L - t0 < (M - c) / L + 1 - t0; omega)
    have e7 : Nat.add (Nat.sub c 1) (Nat.mul L t0) + L * (m / L - t0) = m - 1 := by
      show c - 1 + L * t0 + L * (m / L - t0) = m - 1
      have e8 : L * t0 + L * (m / L - t0) = L * (m / L) := by rw [← Nat.mul_add]; congr 1; omega
      omega
    rw [e7] at h7
    have hm1 : m - 1 + 1 = m := by omega
    rw [hm1] at h7
    rcases h7 with h8 | h8
    · exact .inl h8
    · refine .inr ⟨?_, h8⟩
      have h9 : thrE16.W / L + 1 ≤ m / L := by rw [ht0] at h6; exact h6
      have h10 : L * (thrE16.W / L + 1) ≤ L * (m / L) := Nat.mul_le_mul_left _ h9
      have h11 := Nat.lt_mul_div_succ thrE16.W (show 0 < L by omega)
      omega

/-- What is asked of a third and last prime m. -/
noncomputable def lastP (q a m : Nat) : Bool :=
  Nat.ble m q || tst3 m (Nat.gcd (Nat.sub m 1) (Nat.sub a 1)) || sfail (Nat.mul a m)

/-- All indexes, mostly 1 alone. -/
noncomputable def noInd1 (q : Nat) : Bool := noInd q 2 && (Nat.ble (imax q) 199 && noIndG q grpS)
/-- Or 2. -/
noncomputable def noInd2 (q : Nat) : Bool := noInd q 4 && (Nat.ble (imax q) 199 && noIndG q grpS)
noncomputable def ranksG (q : Nat) (f : Nat → Bool) : Bool :=
  Bool.rec (motive := fun _ => Bool) (Bool.rec (motive := fun _ => Bool) (ranks q f) (f (Nat.sub q 1) && f (Nat.div (Nat.sub q 1) 2)) (noInd2 q)) (f (Nat.sub q 1)) (noInd1 q)

/-- Without primes from 3 on and without 4 the index is 1 or 2. -/
theorem index_two {q r I : Nat} (hS : noIndG q grpS = true) (h4 : noInd q 4 = true) (hI0 : 1 ≤ I) (hmax : I ≤ 199) (hk : Kills r q) (hI : q - 1 = r * I) : I = 1 ∨ I = 2 := by
  rcases Nat.lt_or_ge I 2 with h2 | h2
  · left; omega
  · right
    have key : ∀ l, Prime l → l ∣ I → l = 2 := by
      intro l hl hlI
      by_cases hl2 : l = 2
      · exact hl2
      · exfalso
        have hle := Nat.le_of_dvd (by omega) hlI
        exact group_not hS grpS_ok (grpS_all l (oddP_all l hl hl2 (by omega)) (by omega)) hk hI hlI hl.1
    obtain ⟨l, hl, hlI, _⟩ := least_factor I h2
    have hl2 := key l hl hlI
    rw [hl2] at hlI
    obtain ⟨J, hJ⟩ := hlI
    rcases Nat.lt_or_ge J 2 with h3 | h3
    · omega
    · exfalso
      obtain ⟨x, hx, hxJ, _⟩ := least_factor J h3
      have hx2 := key x hx (Nat.dvd_trans hxJ ⟨2, by rw [hJ, Nat.mul_comm]⟩)
      rw [hx2] at hxJ
      obtain ⟨y, hy⟩ := hxJ
      exact noInd_not h4 hk hI ⟨y, by rw [hJ, hy]; omega⟩ (by omega)

theorem ranksG_spec {n s d q : Nat} {f : Nat → Bool} (h : ranksG q f = true) (H : Pass n s d) (hp : Prime q) (hp3 : 41 ≤ q) (hd : q ∣ n) : f (Nat.gcd (q - 1) (n - 1)) = true := by
  unfold ranksG at h
  cases hb : noInd1 q with
  | false =>
    rw [hb] at h
    cases hb2 : noInd2 q with
    | false =>
      rw [hb2] at h
      exact ranks_spec h H hp hp3 hd
    | true =>
      rw [hb2] at h
      have h0 : (f (Nat.sub q 1) && f (Nat.div (Nat.sub q 1) 2)) = true := h
      rw [Bool.and_eq_true] at h0
      unfold noInd2 at hb2
      rw [Bool.and_eq_true, Bool.and_eq_true] at hb2
      obtain ⟨hall4, hz, hallS⟩ := hb2
      have hmax : imax q ≤ 199 := Nat.le_of_ble_eq_true hz
      obtain ⟨r, hr⟩ : ∃ r, r = Nat.gcd (q - 1) (n - 1) := ⟨_, rfl⟩
      have hk := kills_prime H hp (by omega) hd
      have hi := imax_le H hp hp3 hd
      have hr1 := (rank_even H hp (by omega)).2
      rw [← hr] at hk hi hr1 ⊢
      obtain ⟨I, hI⟩ : r ∣ q - 1 := hr ▸ Nat.gcd_dvd_left _ _
      have hI1 : (q - 1) / r = I := by rw [hI]; exact Nat.mul_div_cancel_left _ hr1
      rw [hI1] at hi
      have hI0 : 1 ≤ I := by
        rcases I with _ | I
        · rw [Nat.mul_zero] at hI; omega
        · omega
      rcases index_two hallS hall4 hI0 (by omega) hk hI with h2 | h2
      · have : Nat.sub q 1 = r := by show q - 1 = r; rw [hI, h2, Nat.mul_one]
        rw [this] at h0
        exact h0.1
      · have : Nat.div (Nat.sub q 1) 2 = r := by
          have e : Nat.sub q 1 = r * 2 := by show q - 1 = r * 2; rw [hI, h2]
          rw [e]; exact Nat.mul_div_cancel _ (by omega)
        rw [this] at h0
        exact h0.2
  | true =>
    rw [hb] at h
    have h0 : f (Nat.sub q 1) = true := h
    unfold noInd1 at hb
    rw [Bool.and_eq_true, Bool.and_eq_true] at hb
    obtain ⟨hall2, hz, hallS⟩ := hb
    have hmax : imax q ≤ 199 := Nat.le_of_ble_eq_true hz
    obtain ⟨r, hr⟩ : ∃ r, r = Nat.gcd (q - 1) (n - 1) := ⟨_, rfl⟩
    have hk := kills_prime H hp (by omega) hd
    have hi := imax_le H hp hp3 hd
    have hr1 := (rank_even H hp (by omega)).2
    rw [← hr] at hk hi hr1 ⊢
    obtain ⟨I, hI⟩ : r ∣ q - 1 := hr ▸ Nat.gcd_dvd_left _ _
    have hI1 : (q - 1) / r = I := by rw [hI]; exact Nat.mul_div_cancel_left _ hr1
    rw [hI1] at hi
    rcases Nat.lt_or_ge I 2 with h2 | h2
    · have hI' : I = 1 := by
        rcases I with _ | _ | I
        · rw [Nat.mul_zero] at hI; omega
        · rfl
        · omega
      have : Nat.sub q 1 = r := by show q - 1 = r; rw [hI, hI', Nat.mul_one]
      rw [this] at h0
      exact h0
    · exfalso
      obtain ⟨l, hl, hlI, _⟩ := least_factor I h2
      by_cases hl2 : l = 2
      · rw [hl2] at hlI
        exact noInd_not hall2 hk hI hlI (by omega)
      · have hle := Nat.le_of_dvd (by omega) hlI
        exact group_not hallS grpS_ok (grpS_all l (oddP_all l hl hl2 (by omega)) (by omega)) hk hI hlI hl.1

/-- What is asked of what is left. -/
noncomputable def lastM (u a m : Nat) : Bool := Nat.ble m u || sfail (Nat.mul a m)

def lcmN (a b : Nat) : Nat := Nat.div (Nat.mul a b) (Nat.gcd a b)
theorem lcmN_eq (a b : Nat) : lcmN a b = Nat.lcm a b := rfl

/-- What is asked of the third of four primes or more. -/
noncomputable def quad (q a L u : Nat) : Bool :=
  Nat.ble u q || Nat.ble 9223372036854775808 (Nat.mul a (Nat.mul u u)) || !(Nat.beq (pow3 2 (Nat.sub u 1) u) 1) ||
    ranksG u fun r => force (Nat.mul a u) fun b => force (lcmN L r) fun L' => muls (lastM u b) b L' (Nat.div 9223372036854775808 b)

/-- The squares modulo l, as bits. -/
def sqM (l : Nat) : Nat := bif Nat.beq l 3 then 2 else bif Nat.beq l 5 then 18 else bif Nat.beq l 7 then 22 else bif Nat.beq l 11 then 570 else bif Nat.beq l 13 then 5658 else bif Nat.beq l 17 then 107286 else bif Nat.beq l 19 then 199410 else bif Nat.beq l 23 then 340830 else bif Nat.beq l 29 then 332473074 else bif Nat.beq l 31 then 303908790 else bif Nat.beq l 37 then 96068509338 else 0
def legQ (l x : Nat) : Bool := Nat.beq (Nat.mod (Nat.shiftRight (sqM l) (Nat.mod x l)) 2) 1
theorem legQ_all : (oddB.all fun l => allFrom (fun x => Nat.beq x 0 || (legQ l x == leg l x)) 0 l) = true := by decide +kernel
theorem legQ_eq {l x : Nat} (hl : l ∈ oddB) (hx : x % l ≠ 0) : legQ l x = leg l (x % l) := by
  have h := List.all_eq_true.1 legQ_all l hl
  have h1 := allFrom_spec h (x % l) (Nat.mod_lt _ (by have := oddB_lt l hl; omega))
  rw [Nat.zero_add] at h1
  have b2 : Nat.beq (x % l) 0 = false := by
    rcases h3 : Nat.beq (x % l) 0 with _ | _
    · rfl
    · exact absurd (Nat.eq_of_beq_eq_true h3) hx
  rw [b2, Bool.false_or] at h1
  have e : legQ l (x % l) = legQ l x := by
    unfold legQ
    have : Nat.mod (x % l) l = Nat.mod x l := Nat.mod_mod x l
    rw [this]
  rw [← e]
  exact eq_of_beq h1

/-- The primes u behind q whose characters are as said. -/
noncomputable def both (rs : List (Grp × Nat)) (p lo n : Nat) (K : Nat → Bool) : Bool :=
  oneS rs (fun l => legQ l p) (Nat.mod p 8) lo n (fun a t => K (Nat.add (Nat.add (Nat.mod p 8) (Nat.mul 8 a)) (Nat.mul 8 t))) &&
  oneS rs (fun _ => true) 1 lo n (fun a t => K (Nat.add (Nat.succ (Nat.mul 8 a)) (Nat.mul 8 t)))

/-- A bound of all u with a u u below 2^63. -/
def ubN (a : Nat) : Nat → Nat
  | 0 => 1
  | j + 1 => bif Nat.ble 9223372036854775808 (Nat.mul a (Nat.pow 4 j)) then ubN a j else Nat.pow 2 (Nat.succ j)

theorem ubN_spec {a u : Nat} (h : a * (u * u) < 9223372036854775808) : ∀ j, u < 2 ^ j → u < ubN a j
  | 0, hu => hu
  | j + 1, hu => by
    rw [ubN]
    cases hb : Nat.ble 9223372036854775808 (Nat.mul a (Nat.pow 4 j)) with
    | false => rw [cond_false]; exact hu
    | true =>
      rw [cond_true]
      refine ubN_spec h j ?_
      have h1 : 9223372036854775808 ≤ a * 4 ^ j := Nat.le_of_ble_eq_true hb
      rcases Nat.lt_or_ge u (2 ^ j) with h2 | h2
      · exact h2
      · exfalso
        have h3 : 4 ^ j = 2 ^ j * 2 ^ j := by rw [← Nat.mul_pow]
        have h4 : a * (2 ^ j * 2 ^ j) ≤ a * (u * u) := Nat.mul_le_mul_left _ (Nat.mul_le_mul h2 h2)
        rw [← h3] at h4
        omega

/-- What is asked of two primes and an exponent of the second. -/
noncomputable def pairI (rs : List (Grp × Nat)) (wm Q p q r : Nat) : Bool :=
  force (Nat.mul p q) fun a => force (lcmN (Nat.sub p 1) r) fun L =>
    mulsQ (lastP q a) (Nat.sub a 1) thrE16.c a L (least wm (Nat.div 9223372036854775808 a)) &&
    (Nat.ble 9223372036854775808 (Nat.mul a (Nat.mul q q)) || force (Nat.div (least Q (ubN a 32)) 8) fun Q' => both rs p (Nat.div q 8) (Nat.succ (Nat.sub Q' (Nat.div q 8))) (quad q a L))

noncomputable def pair (rs : List (Grp × Nat)) (wm Q p q : Nat) : Bool :=
  Nat.ble q p || !(Nat.beq (pow3 2 (Nat.sub q 1) q) 1) || ranksG q (pairI rs wm Q p q)

/-- p's own level is 1, or some character of it is not 1. -/
def plain (p : Nat) : Bool := Nat.beq (Nat.mod p 4) 3 || !(Nat.beq (Nat.mod p 8) 1 && oddB.all fun l => legQ l p)

/-- What is asked of the least prime p; Q: the greatest q. -/
noncomputable def tri (rs : List (Grp × Nat)) (W wm Q p : Nat) : Bool :=
  !(Nat.beq (pow3 2 (Nat.sub p 1) p) 1) ||
    (plain p && (Nat.ble (Nat.div Q 8) (Nat.add (Nat.div p 8) W) && both rs p (Nat.div p 8) (Nat.succ (Nat.sub (Nat.div Q 8) (Nat.div p 8))) (pair rs wm Q p)))

/-- Two primes of one number: the second has the characters of the first, or is special. -/
theorem two_kinds {n s d p u : Nat} (H : Pass n s d) (hp : Prime p) (hu : Prime u) (hp3 : 41 ≤ p) (hu3 : 41 ≤ u) (hpn : p ∣ n) (hun : u ∣ n) (hpl : plain p = true) :
    (u % 8 = p % 8 ∧ ∀ l ∈ oddB, u % l ≠ 0 ∧ leg l (u % l) = leg l (p % l)) ∨ (u % 8 = 1 ∧ ∀ l ∈ oddB, u % l ≠ 0 ∧ leg l (u % l) = true) := by
  obtain ⟨e, he⟩ := v2_ex hp.1
  obtain ⟨f, hf⟩ := v2_ex hu.1
  have hpo := prime_is_odd hp (by omega)
  have huo := prime_is_odd hu (by omega)
  have he1 := v2_pos hpo he
  have hf1 := v2_pos huo hf
  rcases Nat.lt_trichotomy e f with h | h | h
  · right
    exact special hu hu3 hf (by omega) (chi_one H hp hu (by omega) (by omega) hpn hun he hf h)
  · subst h
    left
    have hs := chi_same H hp hu (by omega) (by omega) hpn hun he hf
    have m1 := v2_mod4 hp.1 he
    have m2 := v2_mod4 hu.1 hf
    have h4 : u % 4 = p % 4 := by
      rcases Nat.lt_or_ge e 2 with h5 | h5
      · have := m1.2.2 (by omega)
        have := m2.2.2 (by omega)
        omega
      · have := m1.1 h5
        have := m2.1 h5
        omega
    refine ⟨two_same huo h4 (hs 2 (by decide)).symm, fun l hl => ?_⟩
    have hl2 := oddB_lt l hl
    have n1 := prime_mod_ne hu hl2.1 (by omega)
    have n2 := prime_mod_ne hp hl2.1 (by omega)
    exact ⟨n1, leg_same hl huo h4 n1 n2 (hs l (oddB_base l hl)).symm⟩
  · exfalso
    obtain ⟨h8, hl⟩ := special hp hp3 he (by omega) (chi_one H hu hp (by omega) (by omega) hun hpn hf he h)
    unfold plain at hpl
    have a1 : Nat.beq (Nat.mod p 4) 3 = false := by
      have : Nat.mod p 4 = 1 := by show p % 4 = 1; omega
      rw [this]; rfl
    have a2 : Nat.beq (Nat.mod p 8) 1 = true := by
      have : Nat.mod p 8 = 1 := h8
      rw [this]; rfl
    have a3 : (oddB.all fun l => legQ l p) = true := List.all_eq_true.2 fun l hl' => by rw [legQ_eq hl' (hl l hl').1]; exact (hl l hl').2
    rw [a1, a2, a3] at hpl
    cases hpl

theorem both_spec {rs : List (Grp × Nat)} {W p lo n u : Nat} {K : Nat → Bool} (hp0 : ∀ l ∈ oddB, p % l ≠ 0) (hrs : ∀ e ∈ rs, e.1 ∈ ones ∧ e.2 = repD e.1.d (W / e.1.d + 2)) (hW : n ≤ W + 1) (h : both rs p lo n K = true) (h1 : lo ≤ u / 8) (h2 : u / 8 < lo + n)
    (hu : (u % 8 = p % 8 ∧ ∀ l ∈ oddB, u % l ≠ 0 ∧ leg l (u % l) = leg l (p % l)) ∨ (u % 8 = 1 ∧ ∀ l ∈ oddB, u % l ≠ 0 ∧ leg l (u % l) = true)) : K u = true := by
  unfold both at h
  rw [Bool.and_eq_true] at h
  rcases hu with ⟨h8, hl⟩ | ⟨h8, hl⟩
  · have e : Nat.mod p 8 + 8 * (u / 8) = u := by show p % 8 + 8 * (u / 8) = u; omega
    obtain ⟨a, t, h3, h4⟩ := oneS_spec (k := u / 8) hrs hW h.1 h1 h2 fun l hl' => by rw [e, legQ_eq hl' (hp0 l hl')]; exact hl l hl'
    have e2 : Nat.add (Nat.add (Nat.mod p 8) (Nat.mul 8 a)) (Nat.mul 8 t) = u := by
      show p % 8 + 8 * a + 8 * t = u
      omega
    rwa [e2] at h4
  · have e : 1 + 8 * (u / 8) = u := by omega
    obtain ⟨a, t, h3, h4⟩ := oneS_spec (k := u / 8) hrs hW h.2 h1 h2 fun l hl' => by rw [e]; exact hl l hl'
    have e2 : Nat.add (Nat.succ (Nat.mul 8 a)) (Nat.mul 8 t) = u := by
      show 8 * a + 1 + 8 * t = u
      omega
    rwa [e2] at h4

theorem fermat_not {p : Nat} {b : Bool} (hp : Prime p) (hp3 : 38 ≤ p) (h : (!(Nat.beq (pow3 2 (Nat.sub p 1) p) 1) || b) = true) : b = true := by
  rw [pow3_fermat hp hp3] at h
  exact h

theorem ble_false {a b : Nat} (h : ¬ a ≤ b) : Nat.ble a b = false := by
  rcases hb : Nat.ble a b with _ | _
  · rfl
  · exact absurd (Nat.le_of_ble_eq_true hb) h

/-- No such number has p as its least prime. -/
theorem no_three {n s d p q c W wm Q : Nat} {rs : List (Grp × Nat)} (hrs : ∀ e ∈ rs, e.1 ∈ ones ∧ e.2 = repD e.1.d (W / e.1.d + 2)) (h : tri rs W wm Q p = true)
    (H : Pass n s d) (hn63 : n < 9223372036854775808) (hn : n = p * q * c) (hp : Prime p) (hq : Prime q) (hp3 : 41 ≤ p) (hpS : p < 65537) (hpq : p < q) (hqQ : q ≤ Q) (hc : 2 ≤ c) (hcq : ∀ u, Prime u → u ∣ c → q < u)
    (hwm : ∀ u, Prime u → u ∣ c → u ≤ wm) (hQ : ∀ u, p * q * (u * u) < 9223372036854775808 → u ≤ Q) : False := by
  have hpn : p ∣ n := ⟨q * c, by rw [hn, Nat.mul_assoc]⟩
  have hqn : q ∣ n := ⟨p * c, by rw [hn]; ac_rfl⟩
  have hcn : c ∣ n := ⟨p * q, by rw [hn]; ac_rfl⟩
  have hpq0 : 0 < p * q := Nat.mul_pos (by omega) (by omega)
  unfold tri at h
  have h1 := fermat_not hp (by omega) h
  rw [Bool.and_eq_true, Bool.and_eq_true] at h1
  obtain ⟨hpl, hWb, h2⟩ := h1
  have hW : Q / 8 ≤ p / 8 + W := Nat.le_of_ble_eq_true hWb
  have en : ∀ x, Nat.succ (Nat.sub (Nat.div Q 8) (Nat.div x 8)) = Q / 8 - x / 8 + 1 := fun x => rfl
  have hp0 : ∀ l ∈ oddB, p % l ≠ 0 := fun l hl => by
    have := oddB_lt l hl
    exact prime_mod_ne hp this.1 (by omega)
  have hqk := two_kinds H hp hq hp3 (by omega) hpn hqn hpl
  have h3 := both_spec (u := q) hp0 hrs (by rw [en]; omega) h2 (by show p / 8 ≤ q / 8; omega) (by rw [en]; show q / 8 < p / 8 + (Q / 8 - p / 8 + 1); omega) hqk
  unfold pair at h3
  rw [ble_false (by omega), Bool.false_or] at h3
  have h4 := fermat_not hq (by omega) h3
  have h5 := ranksG_spec h4 H hq (by omega) hqn
  obtain ⟨r, hr⟩ : ∃ r, r = Nat.gcd (q - 1) (n - 1) := ⟨_, rfl⟩
  have hr1 := (rank_even H hq (by omega)).2
  rw [← hr] at h5 hr1
  have hrn : r ∣ n - 1 := by rw [hr]; exact Nat.gcd_dvd_right _ _
  unfold pairI at h5
  rw [force_eq, force_eq, force_eq, Bool.and_eq_true, lcmN_eq] at h5
  -- p - 1 divides n - 1
  have hpf : (p - 1) ∣ n - 1 := by
    have hf := (checks.full p hp hp3 hpS).1
    refine hf _ fun b hb => ?_
    have h1 := mod_of_dvd hpn (show b ^ (n - 1) % n = 1 % n by rw [H.fer b hb, Nat.mod_eq_of_lt (by have := H.two; omega)])
    rw [h1, Nat.mod_eq_of_lt (by omega)]
  have e1 : Nat.sub p 1 = p - 1 := rfl
  rw [e1] at h5
  obtain ⟨L, hL⟩ : ∃ L, L = Nat.lcm (p - 1) r := ⟨_, rfl⟩
  have hLn : L ∣ n - 1 := by rw [hL]; exact Nat.lcm_dvd hpf hrn
  have hL2 : 2 ≤ L := by
    have h6 : (p - 1) ∣ L := by rw [hL]; exact Nat.dvd_lcm_left _ _
    have h7 : 0 < L := by rw [hL]; exact Nat.lcm_pos (by omega) hr1
    have := Nat.le_of_dvd h7 h6
    omega
  rw [← hL] at h5
  obtain ⟨h6, h7⟩ := h5
  have ea : Nat.mul p q = p * q := rfl
  rw [ea] at h6 h7
  by_cases hcp : Prime c
  · -- three primes
    have hcwm := hwm c hcp (Nat.dvd_refl c)
    have hM : c ≤ least wm (Nat.div 9223372036854775808 (p * q)) := by
      have hle := (least_le wm (Nat.div 9223372036854775808 (p * q))).2.2
      have h8 : c ≤ 9223372036854775808 / (p * q) := by
        rw [Nat.le_div_iff_mul_le hpq0, Nat.mul_comm, ← hn]; omega
      rcases hle with h9 | h9
      · rw [h9]; exact hcwm
      · rw [h9]; exact h8
    have h8 := mulsQ_spec (m := c) h6 hL2 hM (by rw [← hn]; exact hLn) (by rw [← hn]; have := H.two; omega)
    have hqc := hcq c hcp (Nat.dvd_refl c)
    -- the exponent at c
    have hrc : Nat.gcd (c - 1) (n - 1) = Nat.gcd (c - 1) (p * q - 1) := by
      have := (two_rank (q := p * q) (w := c) (Nat.le_trans hp.1 (Nat.le_mul_of_pos_right _ (by omega))) hc).1
      rw [← hn] at this
      exact this
    rcases h8 with h8 | ⟨h11, h12⟩
    · unfold lastP at h8
      rw [ble_false (by omega), Bool.false_or, Bool.or_eq_true] at h8
      rcases h8 with h9 | h9
      · refine tst3_not h9 ?_
        have := kills_prime H hcp (by omega) hcn
        rw [hrc] at this
        exact this
      · have : Nat.mul (p * q) c = n := hn.symm
        rw [this] at h9
        exact sfail_not h9 H
    · have h12' : Nat.gcd (c - 1) (p * q - 1) < thrE16.c := h12
      obtain ⟨X, hX⟩ := thrL_ok thrE16 (by simp [thrL])
      have := thr_le hX H hcp (by omega) hcn h11
      omega
  · -- four primes or more
    obtain ⟨u, hu, ⟨m, hm⟩, hmin⟩ := least_factor c hc
    have huc : u ∣ c := ⟨m, hm⟩
    have hun : u ∣ n := Nat.dvd_trans huc hcn
    have hqu := hcq u hu huc
    have hm2 : 2 ≤ m := by
      rcases m with _ | _ | m
      · rw [Nat.mul_zero] at hm; omega
      · exfalso; apply hcp; rw [hm, Nat.zero_add, Nat.mul_one]; exact hu
      · omega
    have hum : u ≤ m := hmin m hm2 ⟨u, by rw [hm, Nat.mul_comm]⟩
    have hum2 : u < m := by
      rcases Nat.lt_or_ge u m with h8 | h8
      · exact h8
      · exfalso
        have : m = u := by omega
        refine no_square H hu (by omega) hn63 ⟨p * q, ?_⟩
        rw [hn, hm, this]; ac_rfl
    have hlt : p * q * (u * u) < 9223372036854775808 := by
      have h8 : p * q * (u * u) ≤ p * q * (u * m) := Nat.mul_le_mul_left _ (Nat.mul_le_mul_left _ hum)
      rw [← hm, ← hn] at h8
      omega
    have hltq : p * q * (q * q) < 9223372036854775808 := by
      have h8 : p * q * (q * q) ≤ p * q * (u * u) := Nat.mul_le_mul_left _ (Nat.mul_le_mul (by omega) (by omega))
      omega
    have e2 : Nat.mul (p * q) (Nat.mul q q) = p * q * (q * q) := rfl
    rw [e2, ble_false (by omega), Bool.false_or] at h7
    have huQ := hQ u hlt
    have hu32 : u < 2 ^ 32 := by
      rcases Nat.lt_or_ge u (2 ^ 32) with h8 | h8
      · exact h8
      · exfalso
        have h9 : 2 ^ 32 * 2 ^ 32 ≤ u * u := Nat.mul_le_mul h8 h8
        have h10 : 1 * (u * u) ≤ p * q * (u * u) := Nat.mul_le_mul_right _ hpq0
        omega
    have hub := ubN_spec hlt 32 hu32
    obtain ⟨Q', hQ'⟩ : ∃ Q', Q' = least Q (ubN (p * q) 32) := ⟨_, rfl⟩
    have huQ' : u ≤ Q' ∧ Q' ≤ Q := by
      have hle := least_le Q (ubN (p * q) 32)
      rw [hQ']
      refine ⟨?_, hle.1⟩
      rcases hle.2.2 with h8 | h8
      · rw [h8]; exact huQ
      · rw [h8]; omega
    have hQ8 : Q' / 8 ≤ Q / 8 := Nat.div_le_div_right huQ'.2
    rw [← hQ'] at h7
    have en' : Nat.succ (Nat.sub (Nat.div Q' 8) (Nat.div q 8)) = Q' / 8 - q / 8 + 1 := rfl
    have huk := two_kinds H hp hu hp3 (by omega) hpn hun hpl
    have h8 := both_spec (u := u) hp0 hrs (by rw [en']; omega) h7 (by show q / 8 ≤ u / 8; omega) (by rw [en']; show u / 8 < q / 8 + (Q' / 8 - q / 8 + 1); omega) huk
    unfold quad at h8
    have e3 : Nat.mul (p * q) (Nat.mul u u) = p * q * (u * u) := rfl
    rw [e3, ble_false (by omega), Bool.false_or, ble_false (by omega), Bool.false_or] at h8
    have h9 := fermat_not hu (by omega) h8
    have h10 := ranksG_spec h9 H hu (by omega) hun
    obtain ⟨x, hx⟩ : ∃ x, x = Nat.gcd (u - 1) (n - 1) := ⟨_, rfl⟩
    have hx1 := (rank_even H hu (by omega)).2
    rw [← hx] at h10 hx1
    rw [force_eq, force_eq, lcmN_eq] at h10
    have hLn' : Nat.lcm L x ∣ n - 1 := Nat.lcm_dvd hLn (by rw [hx]; exact Nat.gcd_dvd_right _ _)
    have hL2' : 2 ≤ Nat.lcm L x := by
      have h11 : L ∣ Nat.lcm L x := Nat.dvd_lcm_left _ _
      have := Nat.le_of_dvd (Nat.lcm_pos (by omega) hx1) h11
      omega
    have eb : Nat.mul (p * q) u = p * q * u := rfl
    rw [eb] at h10
    have hnm : n = p * q * u * m := by rw [hn, hm]; ac_rfl
    have h12 := muls_spec (m := m) h10 hL2' (by
      show m ≤ 9223372036854775808 / (p * q * u)
      rw [Nat.le_div_iff_mul_le (Nat.mul_pos hpq0 (by omega)), Nat.mul_comm, ← hnm]; omega) (by rw [← hnm]; exact hLn') (by rw [← hnm]; have := H.two; omega)
    unfold lastM at h12
    rw [ble_false (by omega), Bool.false_or] at h12
    have : Nat.mul (p * q * u) m = n := hnm.symm
    rw [this] at h12
    exact sfail_not h12 H
end Go.Proofs.YtpphfeinmmmckaaDoor
