/-
  Plain: Gauss's lemma: the quadratic character of a small number modulo a prime p hangs on p modulo four times that number.
-/
import Derived.Test.YtpphfeinmmmckaaDoorNt
namespace Go.Proofs.YtpphfeinmmmckaaDoor.Nt

/-- f 1 + .. + f n. -/
def sumTo (f : Nat → Nat) : Nat → Nat
  | 0 => 0
  | n + 1 => sumTo f n + f (n + 1)

theorem sumTo_congr {f g : Nat → Nat} : ∀ {n : Nat}, (∀ k, 1 ≤ k → k ≤ n → f k = g k) → sumTo f n = sumTo g n
  | 0, _ => rfl
  | n + 1, h => by
    rw [sumTo, sumTo, sumTo_congr fun k h1 h2 => h k h1 (by omega), h (n + 1) (by omega) (Nat.le_refl _)]

theorem sumTo_add (f g : Nat → Nat) : ∀ n : Nat, sumTo (fun k => f k + g k) n = sumTo f n + sumTo g n
  | 0 => rfl
  | n + 1 => by rw [sumTo, sumTo, sumTo, sumTo_add f g n]; omega

theorem sumTo_swap (f : Nat → Nat → Nat) (m : Nat) : ∀ n : Nat, sumTo (fun k => sumTo (fun j => f k j) m) n = sumTo (fun j => sumTo (fun k => f k j) n) m
  | 0 => by
    show 0 = sumTo (fun _ => 0) m
    induction m with
    | zero => rfl
    | succ m ih => rw [sumTo, ← ih]
  | n + 1 => by
    rw [sumTo, sumTo_swap f m n, ← sumTo_add]
    rfl

/-- How many of 1 .. n are at most x. -/
theorem sumTo_le (x : Nat) : ∀ n : Nat, sumTo (fun j => if j ≤ x then 1 else 0) n = min n x
  | 0 => by simp [sumTo]
  | n + 1 => by
    rw [sumTo, sumTo_le x n]
    by_cases h : n + 1 ≤ x
    · rw [if_pos h]; omega
    · rw [if_neg h]; omega

/-- How many of 1 .. n are above x. -/
theorem sumTo_gt (x : Nat) : ∀ n : Nat, sumTo (fun k => if x < k then 1 else 0) n = n - x
  | 0 => by simp [sumTo]
  | n + 1 => by
    rw [sumTo, sumTo_gt x n]
    by_cases h : x < n + 1
    · rw [if_pos h]; omega
    · rw [if_neg h]; omega

/-- The sum that decides. -/
def gsum (a u : Nat) : Nat := sumTo (fun j => u / 2 + j * u / (2 * a)) (a - 1)
def gchi (a u : Nat) : Bool := Nat.beq (Nat.mod (gsum a u) 2) 0

theorem sumTo_par {f g : Nat → Nat} : ∀ {n : Nat}, (∀ k, 1 ≤ k → k ≤ n → f k % 2 = g k % 2) → sumTo f n % 2 = sumTo g n % 2
  | 0, _ => rfl
  | n + 1, h => by
    have h1 := sumTo_par fun k h1 h2 => h k h1 (Nat.le_succ_of_le h2)
    have h2 := h (n + 1) (by omega) (Nat.le_refl _)
    rw [sumTo, sumTo]
    omega

theorem gchi_add (a u : Nat) (ha : 0 < a) : gchi a (u + 4 * a) = gchi a u := by
  unfold gchi
  have : gsum a (u + 4 * a) % 2 = gsum a u % 2 := by
    unfold gsum
    refine sumTo_par fun j _ _ => ?_
    have e1 : j * (u + 4 * a) / (2 * a) = j * u / (2 * a) + 2 * j := by
      have : j * (u + 4 * a) = j * u + (2 * a) * (2 * j) := by
        rw [Nat.mul_add]
        congr 1
        simp only [Nat.mul_comm, Nat.mul_left_comm]
      rw [this, Nat.add_mul_div_left _ _ (by omega)]
    rw [e1]
    omega
  show Nat.beq (gsum a (u + 4 * a) % 2) 0 = Nat.beq (gsum a u % 2) 0
  rw [this]

theorem gchi_mod (a u : Nat) (ha : 0 < a) : gchi a u = gchi a (u % (4 * a)) := by
  have key : ∀ k r, gchi a (r + 4 * a * k) = gchi a r := by
    intro k
    induction k with
    | zero => intro r; rfl
    | succ k ih =>
      intro r
      rw [Nat.mul_succ, ← Nat.add_assoc, gchi_add a _ ha, ih]
  conv => lhs; rw [← Nat.mod_add_div u (4 * a)]
  exact key _ _

/-- The exponent of Gauss's lemma. -/
theorem gauss_count {p a : Nat} (hp : Prime p) (h3 : 3 ≤ p) (ha : ¬ p ∣ a) (ha0 : 0 < a) : sumTo (fun k => 2 * a * k / p) ((p - 1) / 2) % 2 = gsum a p % 2 := by
  have h2 := hp.1
  have hodd : p % 2 = 1 := by
    rcases Nat.mod_two_eq_zero_or_one p with h0 | h0
    · exfalso
      rcases hp.2 2 (Nat.dvd_of_mod_eq_zero h0) with h | h <;> omega
    · exact h0
  obtain ⟨m, hm⟩ : ∃ m, p = 2 * m + 1 := ⟨p / 2, by omega⟩
  have em : (p - 1) / 2 = m := by omega
  have em2 : p / 2 = m := by omega
  rw [em]
  have h1 : sumTo (fun k => 2 * a * k / p) m = sumTo (fun k => sumTo (fun j => if p * j / (2 * a) < k then 1 else 0) (a - 1)) m := by
    refine sumTo_congr fun k hk1 hk2 => ?_
    have hlt : 2 * a * k / p ≤ a - 1 := by
      have h5 : 2 * a * k < p * a := by
        have h6 : a * (2 * k) ≤ a * (2 * m) := Nat.mul_le_mul_left _ (by omega)
        have e1 : 2 * a * k = a * (2 * k) := by rw [Nat.mul_comm 2 a, Nat.mul_assoc]
        have e2 : p * a = a * (2 * m) + a := by rw [hm, Nat.mul_comm, Nat.mul_add, Nat.mul_one]
        omega
      have := (Nat.div_lt_iff_lt_mul (by omega : 0 < p)).2 (Nat.mul_comm p a ▸ h5)
      omega
    have e1 : 2 * a * k / p = min (a - 1) (2 * a * k / p) := by omega
    rw [e1, ← sumTo_le]
    refine sumTo_congr fun j hj1 hj2 => ?_
    have hne : p * j ≠ 2 * a * k := by
      intro he
      have hd : p ∣ 2 * a * k := ⟨j, he.symm⟩
      rcases euclid hp hd with h5 | h5
      · rcases euclid hp h5 with h6 | h6
        · have := Nat.le_of_dvd (by omega) h6; omega
        · exact ha h6
      · have := Nat.le_of_dvd (by omega) h5; omega
    have hiff : (j ≤ 2 * a * k / p) ↔ (p * j / (2 * a) < k) := by
      rw [Nat.le_div_iff_mul_le (by omega), Nat.div_lt_iff_lt_mul (by omega), Nat.mul_comm j p, Nat.mul_comm k (2 * a)]
      omega
    by_cases h : j ≤ 2 * a * k / p
    · rw [if_pos h, if_pos (hiff.1 h)]
    · rw [if_neg h, if_neg (fun h' => h (hiff.2 h'))]
  rw [h1, sumTo_swap]
  unfold gsum
  refine sumTo_par fun j hj1 hj2 => ?_
  rw [sumTo_gt, em2, Nat.mul_comm p j]
  have : j * p / (2 * a) ≤ m := by
    have h5 : j * p ≤ a * p := Nat.mul_le_mul_right _ (by omega)
    have h6 : j * p / (2 * a) ≤ a * p / (2 * a) := Nat.div_le_div_right h5
    have h7 : a * p / (2 * a) = p / 2 := by rw [Nat.mul_comm 2 a]; exact Nat.mul_div_mul_left _ _ ha0
    omega
  omega

theorem neg_pow_par {p : Nat} (hp : 2 ≤ p) : ∀ k, (p - 1) ^ k % p = if k % 2 = 0 then 1 % p else p - 1
  | 0 => by simp
  | k + 1 => by
    have ih := neg_pow_par hp k
    rw [Nat.pow_succ, Nat.mul_mod, ih]
    by_cases h : k % 2 = 0
    · rw [if_pos h, if_neg (by omega), ← Nat.mul_mod, Nat.one_mul, Nat.mod_eq_of_lt (by omega)]
    · rw [if_neg h, if_pos (by omega), Nat.mod_eq_of_lt (show p - 1 < p by omega)]
      obtain ⟨q, rfl⟩ : ∃ q, p = q + 2 := ⟨p - 2, by omega⟩
      have e : (q + 2 - 1) * (q + 2 - 1) = 1 + (q + 2) * q := by
        rw [show q + 2 - 1 = q + 1 by omega, Nat.add_mul, Nat.mul_add, Nat.add_mul]; omega
      rw [e, Nat.add_mul_mod_self_left]

theorem prod_pow_par {p : Nat} (s : Nat → Nat) (e : Nat → Nat) (a : Nat) : ∀ n : Nat, (∀ k, 1 ≤ k → k ≤ n → a * k % p = (p - 1) ^ s k * e k % p) →
    a ^ n * prodL (List.range' 1 n) % p = (p - 1) ^ sumTo s n * prodL ((List.range' 1 n).map e) % p
  | 0, _ => by simp [sumTo, prodL]
  | n + 1, h => by
    have ih := prod_pow_par s e a n fun k h1 h2 => h k h1 (Nat.le_succ_of_le h2)
    have hk := h (n + 1) (by omega) (Nat.le_refl _)
    have app : ∀ (l m : List Nat), prodL (l ++ m) = prodL l * prodL m := by
      intro l m
      induction l with
      | nil => simp [prodL]
      | cons x l ih => simp [prodL, ih, Nat.mul_assoc]
    have er : List.range' 1 (n + 1) = List.range' 1 n ++ [n + 1] := by
      rw [List.range'_1_concat]; congr 2; omega
    rw [er, List.map_append, app, app, List.map_cons, List.map_nil]
    have e1 : prodL [n + 1] = n + 1 := by simp [prodL]
    have e2 : prodL [e (n + 1)] = e (n + 1) := by simp [prodL]
    rw [e1, e2, sumTo, Nat.pow_succ, Nat.pow_add]
    have e3 : a ^ n * a * (prodL (List.range' 1 n) * (n + 1)) = (a ^ n * prodL (List.range' 1 n)) * (a * (n + 1)) := by
      simp only [Nat.mul_comm, Nat.mul_left_comm, Nat.mul_assoc]
    have e4 : (p - 1) ^ sumTo s n * (p - 1) ^ s (n + 1) * (prodL ((List.range' 1 n).map e) * e (n + 1)) = ((p - 1) ^ sumTo s n * prodL ((List.range' 1 n).map e)) * ((p - 1) ^ s (n + 1) * e (n + 1)) := by
      simp only [Nat.mul_comm, Nat.mul_left_comm, Nat.mul_assoc]
    rw [e3, e4, Nat.mul_mod, ih, hk, ← Nat.mul_mod]

/-- Gauss's lemma. -/
theorem gauss {p a : Nat} (hp : Prime p) (h3 : 3 ≤ p) (ha : ¬ p ∣ a) (ha0 : 0 < a) : a ^ ((p - 1) / 2) % p = 1 ↔ gchi a p = true := by
  have h2 := hp.1
  have hodd : p % 2 = 1 := by
    rcases Nat.mod_two_eq_zero_or_one p with h0 | h0
    · exfalso
      rcases hp.2 2 (Nat.dvd_of_mod_eq_zero h0) with h | h <;> omega
    · exact h0
  obtain ⟨m, hm⟩ : ∃ m, p = 2 * m + 1 := ⟨p / 2, by omega⟩
  have em : (p - 1) / 2 = m := by omega
  let e : Nat → Nat := fun k => if a * k % p ≤ m then a * k % p else p - a * k % p
  let s : Nat → Nat := fun k => 2 * a * k / p
  have hr0 : ∀ k, 1 ≤ k → k ≤ m → a * k % p ≠ 0 := by
    intro k h1 h4 h0
    rcases euclid hp (Nat.dvd_of_mod_eq_zero h0) with h | h
    · exact ha h
    · have := Nat.le_of_dvd (by omega) h; omega
  have hrp : ∀ k, a * k % p < p := fun k => Nat.mod_lt _ (by omega)
  have hs : ∀ k, s k % 2 = if a * k % p ≤ m then 0 else 1 := by
    intro k
    have hd := Nat.div_add_mod (a * k) p
    have hlt := hrp k
    show 2 * a * k / p % 2 = _
    obtain ⟨t, ht⟩ : ∃ t, t = a * k / p := ⟨_, rfl⟩
    obtain ⟨r, hr⟩ : ∃ r, r = a * k % p := ⟨_, rfl⟩
    rw [← ht, ← hr] at hd
    rw [← hr] at hlt ⊢
    have e1 : 2 * a * k = 2 * r + p * (2 * t) := by
      rw [Nat.mul_assoc, ← hd, Nat.mul_add, Nat.mul_left_comm]; omega
    rw [e1, Nat.add_mul_div_left _ _ (by omega)]
    by_cases h : r ≤ m
    · rw [if_pos h, Nat.div_eq_of_lt (by omega)]; omega
    · rw [if_neg h]
      have : 2 * r / p = 1 := by
        refine Nat.div_eq_of_lt_le (by omega) (by omega)
      rw [this]; omega
  have hstep : ∀ k, 1 ≤ k → k ≤ m → a * k % p = (p - 1) ^ s k * e k % p := by
    intro k h1 h4
    have h0 := hr0 k h1 h4
    have hlt := hrp k
    rw [Nat.mul_mod ((p - 1) ^ s k), neg_pow_par h2, hs k]
    show a * k % p = _ * ((if a * k % p ≤ m then a * k % p else p - a * k % p) % p) % p
    by_cases h : a * k % p ≤ m
    · rw [if_pos h, if_pos rfl, if_pos h, ← Nat.mul_mod, Nat.one_mul, Nat.mod_mod]
    · rw [if_neg h, if_neg (by omega), if_neg h]
      obtain ⟨r, hr⟩ : ∃ r, r = a * k % p := ⟨_, rfl⟩
      rw [← hr] at h0 hlt h ⊢
      rw [Nat.mod_eq_of_lt (show p - r < p by omega)]
      have e1 : (p - 1) * (p - r) = r + p * (p - r - 1) := by
        obtain ⟨y, hy⟩ : ∃ y, p - r = y + 1 := ⟨p - r - 1, by omega⟩
        have e2 : p = r + y + 1 := by omega
        rw [hy, Nat.add_sub_cancel, e2, Nat.add_sub_cancel, Nat.mul_add, Nat.mul_one, Nat.add_mul (r + y) 1 y]
        omega
      rw [e1, Nat.add_mul_mod_self_left, Nat.mod_eq_of_lt hlt]
  have hprod := prod_pow_par (p := p) s e a m hstep
  -- the e k are a permutation of 1 .. m
  have hperm : List.Perm ((List.range' 1 m).map e) (List.range' 1 m) := by
    refine perm_of_sub _ _ ?_ ?_ (by simp)
    · have hl : (List.range' 1 m).Nodup := List.nodup_range'
      rw [List.nodup_iff_pairwise_ne] at hl ⊢
      rw [List.pairwise_map]
      refine hl.imp_of_mem fun {x y} hx hy hne he => hne ?_
      rw [List.mem_range'_1] at hx hy
      have hx0 := hr0 x (by omega) (by omega)
      have hy0 := hr0 y (by omega) (by omega)
      have hxp := hrp x
      have hyp := hrp y
      have he' : (if a * x % p ≤ m then a * x % p else p - a * x % p) = (if a * y % p ≤ m then a * y % p else p - a * y % p) := he
      have hcase : a * x % p = a * y % p ∨ a * x % p + a * y % p = p := by
        by_cases c1 : a * x % p ≤ m <;> by_cases c2 : a * y % p ≤ m
        · rw [if_pos c1, if_pos c2] at he'; exact .inl he'
        · rw [if_pos c1, if_neg c2] at he'; right; omega
        · rw [if_neg c1, if_pos c2] at he'; right; omega
        · rw [if_neg c1, if_neg c2] at he'; left; omega
      rcases hcase with h | h
      · have := cancel_mod hp ha h
        rwa [Nat.mod_eq_of_lt (by omega), Nat.mod_eq_of_lt (by omega)] at this
      · exfalso
        have hd : p ∣ a * (x + y) := by
          refine Nat.dvd_of_mod_eq_zero ?_
          rw [Nat.mul_add, Nat.add_mod, h, Nat.mod_self]
        rcases euclid hp hd with h5 | h5
        · exact ha h5
        · have := Nat.le_of_dvd (by omega) h5; omega
    · intro x hx
      obtain ⟨k, hk, rfl⟩ := List.mem_map.1 hx
      rw [List.mem_range'_1] at hk ⊢
      have h0 := hr0 k (by omega) (by omega)
      have hlt := hrp k
      show 1 ≤ (if a * k % p ≤ m then a * k % p else p - a * k % p) ∧ (if a * k % p ≤ m then a * k % p else p - a * k % p) < 1 + m
      by_cases h : a * k % p ≤ m
      · rw [if_pos h]; omega
      · rw [if_neg h]; omega
  rw [prod_perm hperm] at hprod
  have hnd : ¬ p ∣ prodL (List.range' 1 m) := by
    refine prod_coprime hp _ fun x hx hd => ?_
    rw [List.mem_range'_1] at hx
    have := Nat.le_of_dvd (by omega) hd
    omega
  have hfin : a ^ m % p = (p - 1) ^ sumTo s m % p := by
    refine cancel_mod hp hnd ?_
    rw [Nat.mul_comm, hprod, Nat.mul_comm]
  have hcount := gauss_count hp h3 ha ha0
  rw [em] at hcount ⊢
  rw [hfin, neg_pow_par h2]
  unfold gchi
  have hc : sumTo s m % 2 = gsum a p % 2 := hcount
  rw [hc]
  show _ ↔ Nat.beq (gsum a p % 2) 0 = true
  by_cases h : gsum a p % 2 = 0
  · rw [if_pos h, h, Nat.mod_eq_of_lt (by omega)]; simp
  · rw [if_neg h]
    constructor
    · intro h5; omega
    · intro h5; exact absurd (Nat.eq_of_beq_eq_true h5) h
end Go.Proofs.YtpphfeinmmmckaaDoor.Nt
