/-
  Plain number theory: primes, Euclid's lemma, Fermat's little theorem; no program in sight.
-/
namespace Go.Proofs.YtpphfeinmmmckaaDoor.Nt

def Prime (p : Nat) : Prop := 2 ≤ p ∧ ∀ d, d ∣ p → d = 1 ∨ d = p

theorem Prime.two_le {p : Nat} (h : Prime p) : 2 ≤ p := h.1

theorem prime_coprime {p a : Nat} (hp : Prime p) (h : ¬ p ∣ a) : Nat.gcd p a = 1 := by
  rcases hp.2 _ (Nat.gcd_dvd_left p a) with h1 | h1
  · exact h1
  · exact absurd (h1 ▸ Nat.gcd_dvd_right p a) h

theorem euclid {p a b : Nat} (hp : Prime p) (h : p ∣ a * b) : p ∣ a ∨ p ∣ b := by
  by_cases ha : p ∣ a
  · exact .inl ha
  · have hc : Nat.Coprime p a := prime_coprime hp ha
    exact .inr (hc.dvd_of_dvd_mul_left h)

theorem dvd_pow {p a : Nat} (hp : Prime p) : ∀ {k : Nat}, p ∣ a ^ k → p ∣ a
  | 0, h => by
    rw [Nat.pow_zero] at h
    have := Nat.le_of_dvd (by omega) h
    have := hp.1
    omega
  | k + 1, h => by
    rw [Nat.pow_succ] at h
    rcases euclid hp h with h | h
    · exact dvd_pow hp h
    · exact h

/-- The least divisor from 2 on. -/
theorem least_factor (n : Nat) (hn : 2 ≤ n) : ∃ p, Prime p ∧ p ∣ n ∧ ∀ d, 2 ≤ d → d ∣ n → p ≤ d := by
  have key : ∀ k, ∀ d, d ≤ k → 2 ≤ d → d ∣ n → ∃ p, 2 ≤ p ∧ p ∣ n ∧ ∀ d, 2 ≤ d → d ∣ n → p ≤ d := by
    intro k
    induction k with
    | zero => intro d h1 h2; omega
    | succ k ih =>
      intro d h1 h2 h3
      by_cases hex : ∃ e, e ≤ k ∧ 2 ≤ e ∧ e ∣ n
      · obtain ⟨e, a, b, c⟩ := hex
        exact ih e a b c
      · refine ⟨d, h2, h3, fun e h4 h5 => ?_⟩
        rcases Nat.lt_or_ge e d with h6 | h6
        · exact absurd ⟨e, by omega, h4, h5⟩ hex
        · exact h6
  obtain ⟨p, h1, h2, h3⟩ := key n n (Nat.le_refl _) hn (Nat.dvd_refl _)
  refine ⟨p, ⟨h1, fun d hd => ?_⟩, h2, h3⟩
  have hpos : 0 < d := Nat.pos_of_dvd_of_pos hd (by omega)
  by_cases h : d = 1
  · exact .inl h
  · have := h3 d (by omega) (Nat.dvd_trans hd h2)
    have := Nat.le_of_dvd (by omega) hd
    exact .inr (by omega)

/-- By trial up to the root. -/
theorem prime_iff (n : Nat) : Prime n ↔ 2 ≤ n ∧ ∀ d, 2 ≤ d → d * d ≤ n → n % d ≠ 0 := by
  constructor
  · rintro ⟨h1, h2⟩
    refine ⟨h1, fun d h3 h4 h5 => ?_⟩
    rcases h2 d (Nat.dvd_of_mod_eq_zero h5) with h | h
    · omega
    · subst h
      have : d * 2 ≤ d * d := Nat.mul_le_mul_left _ h3
      omega
  · rintro ⟨h1, h2⟩
    obtain ⟨p, hp, hd, hmin⟩ := least_factor n h1
    obtain ⟨c, hc⟩ := hd
    have hp2 := hp.1
    by_cases h : c ≤ 1
    · have : c = 1 := by
        rcases c with _ | c
        · simp at hc; omega
        · omega
      subst this
      rw [Nat.mul_one] at hc
      exact hc ▸ hp
    · have h3 := hmin c (by omega) ⟨p, by rw [hc, Nat.mul_comm]⟩
      have h4 : p * p ≤ n := by rw [hc]; exact Nat.mul_le_mul_left _ h3
      exact absurd (Nat.mod_eq_zero_of_dvd ⟨c, hc⟩) (h2 p hp2 h4)

/-- A list without repeats, in another one that is no longer, is it, up to order. -/
theorem perm_of_sub : ∀ (l m : List Nat), l.Nodup → (∀ x ∈ l, x ∈ m) → m.length ≤ l.length → List.Perm l m
  | [], m, _, _, h => by
    have : m = [] := List.eq_nil_of_length_eq_zero (by simpa using h)
    rw [this]
  | x :: l, m, hn, hs, h => by
    have hx : x ∈ m := hs x (by simp)
    have hn' := List.nodup_cons.1 hn
    have hp : List.Perm m (x :: m.erase x) := List.perm_cons_erase hx
    have hlen := List.length_erase_of_mem hx
    have hmpos : 0 < m.length := List.length_pos_of_mem hx
    have ih := perm_of_sub l (m.erase x) hn'.2 (fun y hy => by
      have hym := hs y (by simp [hy])
      have hne : y ≠ x := fun e => hn'.1 (e ▸ hy)
      exact (List.mem_erase_of_ne hne).2 hym) (by simp at h; omega)
    exact (List.Perm.cons x ih).trans hp.symm

def prodL : List Nat → Nat
  | [] => 1
  | x :: l => x * prodL l

theorem prod_perm {l m : List Nat} (h : List.Perm l m) : prodL l = prodL m := by
  induction h with
  | nil => rfl
  | cons x _ ih => simp [prodL, ih]
  | swap x y l => simp [prodL, Nat.mul_left_comm]
  | trans _ _ a b => exact a.trans b

theorem prod_map_mod (a p : Nat) : ∀ (l : List Nat), prodL (l.map fun k => a * k % p) % p = a ^ l.length * prodL l % p
  | [] => by simp [prodL]
  | x :: l => by
    rw [List.map_cons, prodL, Nat.mul_mod, prod_map_mod a p l, Nat.mod_mod, ← Nat.mul_mod, prodL, List.length_cons, Nat.pow_succ]
    congr 1
    simp only [Nat.mul_comm, Nat.mul_left_comm, Nat.mul_assoc]

theorem prod_coprime {p : Nat} (hp : Prime p) : ∀ (l : List Nat), (∀ x ∈ l, ¬ p ∣ x) → ¬ p ∣ prodL l
  | [], _ => by
    simp only [prodL]
    intro h
    have := Nat.le_of_dvd (by omega) h
    have := hp.1
    omega
  | x :: l, h => by
    simp only [prodL]
    intro hd
    rcases euclid hp hd with h1 | h1
    · exact h x (by simp) h1
    · exact prod_coprime hp l (fun y hy => h y (by simp [hy])) h1

theorem mod_eq_dvd {a b p : Nat} (h : a % p = b % p) (_hab : b ≤ a) : p ∣ a - b := by
  have := Nat.sub_mod_eq_zero_of_mod_eq h
  exact Nat.dvd_of_mod_eq_zero this

theorem cancel_mod {p a x y : Nat} (hp : Prime p) (ha : ¬ p ∣ a) (h : a * x % p = a * y % p) : x % p = y % p := by
  have key : ∀ x y, y ≤ x → a * x % p = a * y % p → x % p = y % p := by
    intro x y hyx h
    have h1 := mod_eq_dvd h (Nat.mul_le_mul_left _ hyx)
    rw [← Nat.mul_sub] at h1
    rcases euclid hp h1 with h2 | h2
    · exact absurd h2 ha
    · obtain ⟨c, hc⟩ := h2
      have : x = y + p * c := by omega
      rw [this, Nat.add_mul_mod_self_left]
  rcases Nat.le_total y x with h1 | h1
  · exact key x y h1 h
  · exact (key y x h1 h.symm).symm

theorem fermat {p a : Nat} (hp : Prime p) (ha : ¬ p ∣ a) : a ^ (p - 1) % p = 1 := by
  have h2 := hp.1
  let l := List.range' 1 (p - 1)
  have hmem : ∀ x, x ∈ l ↔ 1 ≤ x ∧ x < p := by
    intro x
    simp only [l, List.mem_range'_1]
    omega
  have hnd : ∀ x ∈ l, ¬ p ∣ x := by
    intro x hx hd
    have := Nat.le_of_dvd (by have := (hmem x).1 hx; omega) hd
    have := (hmem x).1 hx
    omega
  have hsub : ∀ x ∈ l.map (fun k => a * k % p), x ∈ l := by
    intro x hx
    obtain ⟨k, hk, rfl⟩ := List.mem_map.1 hx
    refine (hmem _).2 ⟨?_, Nat.mod_lt _ (by omega)⟩
    rcases Nat.eq_zero_or_pos (a * k % p) with h0 | h0
    · rcases euclid hp (Nat.dvd_of_mod_eq_zero h0) with h | h
      · exact absurd h ha
      · exact absurd h (hnd k hk)
    · exact h0
  have hnodup : (l.map (fun k => a * k % p)).Nodup := by
    have hl : l.Nodup := List.nodup_range'
    rw [List.nodup_iff_pairwise_ne] at hl ⊢
    rw [List.pairwise_map]
    refine hl.imp_of_mem fun {x y} hx hy hne he => hne ?_
    have h3 := cancel_mod hp ha he
    rwa [Nat.mod_eq_of_lt ((hmem x).1 hx).2, Nat.mod_eq_of_lt ((hmem y).1 hy).2] at h3
  have hperm := perm_of_sub _ l hnodup hsub (by simp)
  have h1 := prod_map_mod a p l
  rw [prod_perm hperm] at h1
  have hlen : l.length = p - 1 := by simp [l]
  rw [hlen] at h1
  have h4 : prodL l * (a ^ (p - 1)) % p = prodL l * 1 % p := by rw [Nat.mul_one, h1, Nat.mul_comm]
  have h5 := cancel_mod hp (prod_coprime hp l hnd) h4
  rw [h5, Nat.mod_eq_of_lt (by omega)]

theorem pow_red {a n m k : Nat} (hm : a ^ m % n = 1 % n) : a ^ k % n = a ^ (k % m) % n := by
  conv => lhs; rw [← Nat.div_add_mod k m, Nat.pow_add, Nat.pow_mul, Nat.mul_mod, Nat.pow_mod, hm, ← Nat.pow_mod, Nat.one_pow, ← Nat.mul_mod, Nat.one_mul]

theorem pow_gcd {a n : Nat} (m k : Nat) : a ^ m % n = 1 % n → a ^ k % n = 1 % n → a ^ Nat.gcd m k % n = 1 % n := by
  refine Nat.gcd.induction (P := fun m k => a ^ m % n = 1 % n → a ^ k % n = 1 % n → a ^ Nat.gcd m k % n = 1 % n) m k ?_ ?_
  · intro k _ h; rw [Nat.gcd_zero_left]; exact h
  · intro m k _ ih h1 h2
    rw [Nat.gcd_rec]
    refine ih ?_ h1
    rw [← pow_red h1]; exact h2

theorem pow_mul_one {a n m k : Nat} (h : a ^ m % n = 1 % n) : a ^ (m * k) % n = 1 % n := by
  rw [Nat.pow_mul, Nat.pow_mod, h, ← Nat.pow_mod, Nat.one_pow]

theorem mod_of_dvd {a b n p : Nat} (hd : p ∣ n) (h : a % n = b % n) : a % p = b % p := by
  rw [← Nat.mod_mod_of_dvd a hd, h, Nat.mod_mod_of_dvd b hd]

end Go.Proofs.YtpphfeinmmmckaaDoor.Nt
