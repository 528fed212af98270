/-
  Plain: every prime has a primitive root.
-/
import Derived.Test.YtpphfeinmmmckaaDoorNt
namespace Go.Proofs.YtpphfeinmmmckaaDoor.Nt

/-- The value of a polynomial whose leading coefficient is 1; the others stand in the list, the lowest first. -/
def ev : List Int → Int → Int
  | [], _ => 1
  | c :: l, x => c + x * ev l x

theorem ev_div : ∀ (c : Int) (l : List Int) (a : Int), ∃ l' : List Int, l'.length = l.length ∧ ∀ x, ev (c :: l) x = ev (c :: l) a + (x - a) * ev l' x
  | c, [], a => ⟨[], rfl, fun x => by simp only [ev]; omega⟩
  | c, d :: l, a => by
    obtain ⟨l', h1, h2⟩ := ev_div d l a
    refine ⟨ev (d :: l) a :: l', by simp [h1], fun x => ?_⟩
    have h3 := h2 x
    show c + x * ev (d :: l) x = c + a * ev (d :: l) a + (x - a) * (ev (d :: l) a + x * ev l' x)
    rw [h3]
    generalize ev (d :: l) a = A
    generalize ev l' x = E
    simp only [Int.mul_add, Int.sub_mul]
    have e1 : x * (x * E) - x * (a * E) = x * (x * E - a * E) := by rw [Int.mul_sub]
    have e2 : a * (x * E) = x * (a * E) := by rw [Int.mul_left_comm]
    rw [e2]
    rw [Int.mul_sub]
    omega

theorem int_euclid {p : Nat} (hp : Prime p) {x y : Int} (h : (p : Int) ∣ x * y) : (p : Int) ∣ x ∨ (p : Int) ∣ y := by
  rw [Int.ofNat_dvd_left, Int.natAbs_mul] at h
  rcases euclid hp h with h1 | h1
  · exact .inl (Int.ofNat_dvd_left.2 h1)
  · exact .inr (Int.ofNat_dvd_left.2 h1)

theorem roots_le {p : Nat} (hp : Prime p) : ∀ (l : List Int) (R : List Nat), R.Nodup → (∀ r ∈ R, r < p ∧ (p : Int) ∣ ev l r) → R.length ≤ l.length
  | [], R, _, h => by
    cases R with
    | nil => exact Nat.le_refl _
    | cons a R =>
      exfalso
      have h1 := (h a (by simp)).2
      have h2 : (p : Int) ∣ 1 := h1
      rw [Int.ofNat_dvd_left] at h2
      have h3 : p ∣ 1 := h2
      have := Nat.le_of_dvd (by omega) h3
      have := hp.1
      omega
  | c :: l, R, hn, h => by
    cases R with
    | nil => simp
    | cons a R =>
      obtain ⟨l', h1, h2⟩ := ev_div c l a
      rw [List.nodup_cons] at hn
      have ih := roots_le hp l' R hn.2 fun r hr => by
        have h3 := h r (List.mem_cons_of_mem _ hr)
        have h4 := h a (by simp)
        refine ⟨h3.1, ?_⟩
        have h5 : (p : Int) ∣ ((r : Int) - a) * ev l' r := by
          have h6 := Int.dvd_sub h3.2 h4.2
          rw [h2 r] at h6
          have e : ev (c :: l) (a : Int) + ((r : Int) - a) * ev l' r - ev (c :: l) (a : Int) = ((r : Int) - a) * ev l' r := by omega
          rwa [e] at h6
        rcases int_euclid hp h5 with h6 | h6
        · exfalso
          have hne : r ≠ a := fun e => hn.1 (e ▸ hr)
          rw [Int.ofNat_dvd_left] at h6
          have h7 : 0 < ((r : Int) - a).natAbs := by omega
          have := Nat.le_of_dvd h7 h6
          have := h3.1
          have := h4.1
          omega
        · exact h6
      simp only [List.length_cons]
      omega

theorem ev_zeros (x : Int) : ∀ k : Nat, ev (List.replicate k 0) x = x ^ k
  | 0 => by simp [ev]
  | k + 1 => by rw [List.replicate_succ, ev, ev_zeros x k, Int.pow_succ, Int.mul_comm]; omega

/-- Some number is no root of x^e - 1. -/
theorem not_all_one {p e : Nat} (hp : Prime p) (he : 1 ≤ e) (hlt : e < p - 1) : ∃ a, 1 ≤ a ∧ a < p ∧ a ^ e % p ≠ 1 := by
  by_cases h : ∃ a, 1 ≤ a ∧ a < p ∧ a ^ e % p ≠ 1
  · exact h
  exfalso
  have h2 : ∀ a, 1 ≤ a → a < p → a ^ e % p = 1 := fun a h1 h2 => by
    by_cases h3 : a ^ e % p = 1
    · exact h3
    · exact absurd ⟨a, h1, h2, h3⟩ h
  have := roots_le hp (-1 :: List.replicate (e - 1) 0) (List.range' 1 (p - 1)) List.nodup_range' fun r hr => by
    rw [List.mem_range'_1] at hr
    refine ⟨by omega, ?_⟩
    have h3 := h2 r (by omega) (by omega)
    have h4 : p ∣ r ^ e - 1 := mod_eq_dvd (by rw [h3, Nat.mod_eq_of_lt (by omega)]) (Nat.pow_pos (by omega))
    rw [ev, ev_zeros]
    have e1 : (-1 : Int) + (r : Int) * (r : Int) ^ (e - 1) = ((r ^ e - 1 : Nat) : Int) := by
      have h5 : 1 ≤ r ^ e := Nat.pow_pos (by omega)
      have h6 : (r : Int) * (r : Int) ^ (e - 1) = ((r ^ e : Nat) : Int) := by
        rw [Int.natCast_pow, Int.mul_comm, ← Int.pow_succ, show (e - 1).succ = e by omega]
      rw [h6]
      omega
    rw [e1]
    exact Int.natCast_dvd_natCast.2 h4
  simp only [List.length_range', List.length_cons, List.length_replicate] at this
  omega

theorem prime_split {q : Nat} (hq : Prime q) : ∀ (x : Nat), 0 < x → ∃ e m, x = q ^ e * m ∧ ¬ q ∣ m := by
  intro x
  induction x using Nat.strongRecOn with
  | _ x ih =>
    intro hx
    by_cases h : q ∣ x
    · obtain ⟨y, hy⟩ := h
      have hy0 : 0 < y := by
        rcases y with _ | y
        · rw [Nat.mul_zero] at hy; omega
        · omega
      have hlt : y < x := by
        have : 2 * y ≤ q * y := Nat.mul_le_mul_right _ hq.1
        omega
      obtain ⟨e, m, h1, h2⟩ := ih y hlt hy0
      exact ⟨e + 1, m, by rw [hy, h1, Nat.pow_succ, Nat.mul_comm (q ^ e) q, Nat.mul_assoc], h2⟩
    · exact ⟨0, x, by rw [Nat.pow_zero, Nat.one_mul], h⟩

/-- An element of each order that divides p - 1. -/
theorem has_order {p : Nat} (hp : Prime p) : ∀ (n : Nat), 0 < n → n ∣ p - 1 → ∃ b, ¬ p ∣ b ∧ b ^ n % p = 1 ∧ ∀ r, Prime r → r ∣ n → b ^ (n / r) % p ≠ 1 := by
  have hone : 1 % p = 1 := Nat.mod_eq_of_lt hp.1
  have hp0 : 0 < p - 1 := by have := hp.1; omega
  intro n
  induction n using Nat.strongRecOn with
  | _ n ih =>
    intro hn hd
    rcases Nat.lt_or_ge n 2 with h1 | h1
    · obtain rfl : n = 1 := by omega
      refine ⟨1, fun h => ?_, by rw [Nat.one_pow, hone], fun r hr hd => ?_⟩
      · have := Nat.le_of_dvd (by omega) h; have := hp.1; omega
      · have := Nat.le_of_dvd (by omega) hd; have := hr.1; omega
    obtain ⟨q, hq, hqn, _⟩ := least_factor n h1
    obtain ⟨e, m, hm, hqm⟩ := prime_split hq n hn
    have he : 1 ≤ e := by
      rcases e with _ | e
      · exfalso; rw [Nat.pow_zero, Nat.one_mul] at hm; rw [hm] at hqn; exact hqm hqn
      · omega
    have hm0 : 0 < m := by
      rcases m with _ | m
      · exact absurd (Nat.dvd_zero q) hqm
      · omega
    have hqe : 2 ≤ q ^ e := by
      calc 2 ≤ q := hq.1
        _ = q ^ 1 := (Nat.pow_one q).symm
        _ ≤ q ^ e := Nat.pow_le_pow_right (by have := hq.1; omega) he
    have hmn : m < n := by
      have : 2 * m ≤ q ^ e * m := Nat.mul_le_mul_right _ hqe
      omega
    obtain ⟨c, hc1, hc2, hc3⟩ := ih m hmn hm0 (Nat.dvd_trans ⟨q ^ e, by rw [hm, Nat.mul_comm]⟩ hd)
    -- an element of order q ^ e
    have hqp : q ∣ p - 1 := Nat.dvd_trans hqn hd
    obtain ⟨u, hu⟩ := hqp
    have hu0 : 1 ≤ u := by
      rcases u with _ | u
      · rw [Nat.mul_zero] at hu; omega
      · omega
    have hup : u < p - 1 := by
      have : 2 * u ≤ q * u := Nat.mul_le_mul_right _ hq.1
      omega
    obtain ⟨a, ha1, ha2, ha3⟩ := not_all_one hp hu0 hup
    have hpa : ¬ p ∣ a := fun h => by have := Nat.le_of_dvd (by omega) h; omega
    obtain ⟨v, hv⟩ : q ^ e ∣ p - 1 := Nat.dvd_trans ⟨m, hm⟩ hd
    have hqee : q ^ e = q ^ (e - 1) * q := by rw [← Nat.pow_succ]; congr 1; omega
    have huv : u = q ^ (e - 1) * v := by
      have h2 : q * u = q * (q ^ (e - 1) * v) := by rw [← hu, hv, hqee]; simp only [Nat.mul_comm, Nat.mul_left_comm]
      exact Nat.eq_of_mul_eq_mul_left (by have := hq.1; omega) h2
    have hb1 : (a ^ v) ^ (q ^ e) % p = 1 := by
      rw [← Nat.pow_mul, Nat.mul_comm v, ← hv]
      exact fermat hp hpa
    have hb2 : (a ^ v) ^ (q ^ (e - 1)) % p ≠ 1 := by
      rw [← Nat.pow_mul, Nat.mul_comm v, ← huv]
      exact ha3
    have hb0 : ¬ p ∣ a ^ v := fun h => hpa (dvd_pow hp h)
    refine ⟨a ^ v * c, fun h => ?_, ?_, ?_⟩
    · rcases euclid hp h with h2 | h2
      · exact hb0 h2
      · exact hc1 h2
    · have e1 : (a ^ v) ^ n % p = 1 := by
        have := pow_mul_one (k := m) (show (a ^ v) ^ (q ^ e) % p = 1 % p by rw [hb1, hone])
        rw [← hm, hone] at this
        exact this
      have e2 : c ^ n % p = 1 := by
        have := pow_mul_one (k := q ^ e) (show c ^ m % p = 1 % p by rw [hc2, hone])
        rw [Nat.mul_comm m, ← hm, hone] at this
        exact this
      rw [Nat.mul_pow, Nat.mul_mod, e1, e2, Nat.one_mul, hone]
    · intro r hr hrn hbad
      by_cases hrq : r = q
      · subst hrq
        have en : n / r = r ^ (e - 1) * m := by
          refine Nat.div_eq_of_eq_mul_right (by have := hr.1; omega) ?_
          rw [hm, hqee]; simp only [Nat.mul_comm, Nat.mul_left_comm]
        rw [en] at hbad
        have e2 : c ^ (r ^ (e - 1) * m) % p = 1 := by
          have := pow_mul_one (k := r ^ (e - 1)) (show c ^ m % p = 1 % p by rw [hc2, hone])
          rw [Nat.mul_comm m, hone] at this
          exact this
        rw [Nat.mul_pow, Nat.mul_mod, e2, Nat.mul_one, Nat.mod_mod] at hbad
        have h3 := pow_gcd (r ^ (e - 1) * m) (r ^ e) (show (a ^ v) ^ (r ^ (e - 1) * m) % p = 1 % p by rw [hbad, hone]) (by rw [hb1, hone])
        have h4 : Nat.gcd (r ^ (e - 1) * m) (r ^ e) = r ^ (e - 1) := by
          rw [hqee, Nat.gcd_mul_left]
          have : Nat.gcd m r = 1 := by rw [Nat.gcd_comm]; exact prime_coprime hr hqm
          rw [this, Nat.mul_one]
        rw [h4, hone] at h3
        exact hb2 h3
      · have hrm : r ∣ m := by
          rw [hm] at hrn
          rcases euclid hr hrn with h2 | h2
          · exfalso
            rcases hq.2 r (dvd_pow hr h2) with h3 | h3
            · have := hr.1; omega
            · exact hrq h3
          · exact h2
        obtain ⟨w, hw⟩ := hrm
        have en : n / r = q ^ e * w := by
          refine Nat.div_eq_of_eq_mul_right (by have := hr.1; omega) ?_
          rw [hm, hw]; exact Nat.mul_left_comm _ _ _
        rw [en] at hbad
        have e2 : (a ^ v) ^ (q ^ e * w) % p = 1 := by
          have := pow_mul_one (k := w) (show (a ^ v) ^ (q ^ e) % p = 1 % p by rw [hb1, hone])
          rw [hone] at this
          exact this
        rw [Nat.mul_pow, Nat.mul_mod, e2, Nat.one_mul, Nat.mod_mod] at hbad
        have h3 := pow_gcd (q ^ e * w) m (show c ^ (q ^ e * w) % p = 1 % p by rw [hbad, hone]) (by rw [hc2, hone])
        have h4 : Nat.gcd (q ^ e * w) m = w := by
          rw [hw, Nat.gcd_mul_right]
          have : Nat.gcd (q ^ e) r = 1 := by
            rw [Nat.gcd_comm]
            refine prime_coprime hr fun h => ?_
            rcases hq.2 r (dvd_pow hr h) with h3 | h3
            · have := hr.1; omega
            · exact hrq h3
          rw [this, Nat.one_mul]
        rw [h4, hone] at h3
        refine hc3 r hr ⟨w, hw⟩ ?_
        have : m / r = w := by rw [hw]; exact Nat.mul_div_cancel_left _ (by have := hr.1; omega)
        rw [this]
        exact h3

/-- A primitive root. -/
theorem prim_root {p : Nat} (hp : Prime p) (h3 : 3 ≤ p) : ∃ g, 2 ≤ g ∧ g < p ∧ g ^ (p - 1) % p = 1 ∧ ∀ r, Prime r → r ∣ p - 1 → g ^ ((p - 1) / r) % p ≠ 1 := by
  obtain ⟨b, h1, h2, h4⟩ := has_order hp (p - 1) (by omega) (Nat.dvd_refl _)
  have hm : ∀ k, (b % p) ^ k % p = b ^ k % p := fun k => (Nat.pow_mod b k p).symm
  refine ⟨b % p, ?_, Nat.mod_lt _ (by omega), by rw [hm]; exact h2, fun r hr hd => by rw [hm]; exact h4 r hr hd⟩
  rcases hb : b % p with _ | _ | g
  · exact absurd (Nat.dvd_of_mod_eq_zero hb) h1
  · exfalso
    obtain ⟨r, hr, hrd, _⟩ := least_factor (p - 1) (by omega)
    refine h4 r hr hrd ?_
    rw [← hm, hb, Nat.zero_add, Nat.one_pow, Nat.mod_eq_of_lt (by omega)]
  · omega
end Go.Proofs.YtpphfeinmmmckaaDoor.Nt
