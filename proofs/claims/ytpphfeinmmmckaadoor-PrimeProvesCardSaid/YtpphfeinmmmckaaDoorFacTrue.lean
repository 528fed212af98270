/-
  Plain: what facs tells: the primes of a number, rising, each with its multiplicity; and multiplicities add.
-/
import Derived.Test.YtpphfeinmmmckaaDoorFac
import Derived.Test.YtpphfeinmmmckaaDoorNt
namespace Go.Proofs.YtpphfeinmmmckaaDoor
open Nt

/-- r stands k times in n. -/
def Mult (r k n : Nat) : Prop := r ^ k ∣ n ∧ ¬ r ^ (k + 1) ∣ n

theorem mult_unique {r j k n : Nat} (h : Mult r j n) (h' : Mult r k n) : j = k := by
  rcases Nat.lt_trichotomy j k with h1 | h1 | h1
  · exact absurd (Nat.dvd_trans (Nat.pow_dvd_pow r h1) h'.1) h.2
  · exact h1
  · exact absurd (Nat.dvd_trans (Nat.pow_dvd_pow r h1) h.1) h'.2

theorem mult_iff {r k n : Nat} (hr : 0 < r) : Mult r k n ↔ ∃ c, n = r ^ k * c ∧ ¬ r ∣ c := by
  constructor
  · rintro ⟨⟨c, hc⟩, h2⟩
    refine ⟨c, hc, fun ⟨d, hd⟩ => h2 ⟨d, ?_⟩⟩
    rw [hc, hd, Nat.pow_succ, Nat.mul_assoc]
  · rintro ⟨c, hc, h2⟩
    refine ⟨⟨c, hc⟩, fun ⟨d, hd⟩ => h2 ⟨d, ?_⟩⟩
    rw [hc, Nat.pow_succ, Nat.mul_assoc] at hd
    exact Nat.eq_of_mul_eq_mul_left (Nat.pow_pos hr) hd

theorem mult_mul {r j k m n : Nat} (hr : Prime r) (h : Mult r j m) (h' : Mult r k n) : Mult r (j + k) (m * n) := by
  have h0 : 0 < r := by have := hr.1; omega
  obtain ⟨c, rfl, hc⟩ := (mult_iff h0).1 h
  obtain ⟨d, rfl, hd⟩ := (mult_iff h0).1 h'
  refine (mult_iff h0).2 ⟨c * d, ?_, fun h3 => ?_⟩
  · rw [Nat.pow_add]; simp only [Nat.mul_comm, Nat.mul_left_comm, Nat.mul_assoc]
  · rcases euclid hr h3 with h4 | h4
    · exact hc h4
    · exact hd h4

theorem mult_zero {r n : Nat} (h : ¬ r ∣ n) : Mult r 0 n := ⟨by rw [Nat.pow_zero]; exact Nat.one_dvd _, by rw [Nat.zero_add, Nat.pow_one]; exact h⟩

/-- What a list of primes with numbers tells of n, from p on. -/
structure FacOk (p n : Nat) (l : List (Nat × Nat)) : Prop where
  each : ∀ x ∈ l, Prime x.1 ∧ p ≤ x.1 ∧ 1 ≤ x.2 ∧ x.2 ≤ 64 ∧ Mult x.1 x.2 n
  all : ∀ r, Prime r → r ∣ n → ∃ k, (r, k) ∈ l
  rises : l.Pairwise fun x y => x.1 < y.1

theorem divOut_le {p : Nat} : ∀ {f n k : Nat}, (divOut p f n k).2 ≤ k + f
  | 0, n, k => Nat.le_refl _
  | f + 1, n, k => by
    by_cases h : n % p = 0
    · rw [divOut_step h]
      have := divOut_le (p := p) (f := f) (n := n / p) (k := k + 1)
      omega
    · rw [divOut_stop h]; show k ≤ _; omega

theorem divOut_mult {p n : Nat} (hp : 2 ≤ p) (hn : 1 ≤ n) (hlt : n < 2 ^ 64) : Mult p (divOut p 64 n 0).2 n ∧ n = p ^ (divOut p 64 n 0).2 * (divOut p 64 n 0).1 := by
  obtain ⟨h1, h2, _, h4, _⟩ := divOut_spec hp (f := 64) (k := 0) hn hlt
  have e : n = p ^ (divOut p 64 n 0).2 * (divOut p 64 n 0).1 := by rw [Nat.mul_comm]; exact h4
  exact ⟨(mult_iff (by omega)).2 ⟨_, e, fun hd => h2 (Nat.mod_eq_zero_of_dvd hd)⟩, e⟩

theorem facLoop_ok : ∀ (f n p : Nat), 2 ≤ p → 1 ≤ n → n < 2 ^ 64 → (∀ d, 2 ≤ d → d < p → ¬ d ∣ n) → (n = 1 ∨ (1 ≤ f ∧ n < (p + f - 1) * (p + f - 1))) → FacOk p n (facLoop f n p)
  | 0, n, p, _, _, _, _, hf => by
    rcases hf with rfl | h
    · refine ⟨fun x hx => by simp [facLoop] at hx, fun r hr hd => ?_, by simp [facLoop]⟩
      have := Nat.le_of_dvd (by omega) hd; have := hr.1; omega
    · omega
  | f + 1, n, p, hp, hn, hlt, hmin, hf => by
    by_cases h1 : n ≤ 1
    · obtain rfl : n = 1 := by omega
      rw [facLoop_one]
      refine ⟨fun x hx => by simp at hx, fun r hr hd => ?_, by simp⟩
      have := Nat.le_of_dvd (by omega) hd; have := hr.1; omega
    · rw [facLoop_succ h1]
      by_cases hsq : n < p * p
      · rw [if_pos hsq]
        have hpr : Prime n := (prime_iff n).2 ⟨by omega, fun d h2 h3 h4 => by
          rcases Nat.lt_or_ge d p with h5 | h5
          · exact hmin d h2 h5 (Nat.dvd_of_mod_eq_zero h4)
          · have := Nat.mul_le_mul h5 h5; omega⟩
        obtain ⟨hm, he⟩ := divOut_mult (p := n) (by omega) hn hlt
        have hm1 : Mult n 1 n := ⟨by rw [Nat.pow_one]; exact Nat.dvd_refl n, by
          intro hd
          have := Nat.le_of_dvd (by omega) hd
          rw [Nat.pow_succ, Nat.pow_one] at this
          have : n * 2 ≤ n * n := Nat.mul_le_mul_left _ (by omega)
          omega⟩
        have hk := mult_unique hm hm1
        rw [hk, if_pos (by omega)]
        rw [hk, Nat.pow_one] at he
        have h1' : (divOut n 64 n 0).1 = 1 := by
          have : n * (divOut n 64 n 0).1 = n * 1 := by omega
          exact Nat.eq_of_mul_eq_mul_left (by omega) this
        rw [h1', facLoop_one]
        have hpn : p ≤ n := by
          rcases Nat.lt_or_ge n p with h5 | h5
          · exact absurd (Nat.dvd_refl n) (hmin n (by omega) h5)
          · exact h5
        refine ⟨fun x hx => ?_, fun r hr hd => ⟨1, ?_⟩, by simp⟩
        · obtain rfl : x = (n, 1) := by simpa using hx
          exact ⟨hpr, hpn, by simp, by simp, hm1⟩
        · have : r = n := by rcases hpr.2 r hd with h | h; exact absurd h (by have := hr.1; omega); exact h
          simp [this]
      · rw [if_neg hsq]
        obtain ⟨hm, he⟩ := divOut_mult hp hn hlt
        obtain ⟨s1, s2, _, _, s5⟩ := divOut_spec hp (f := 64) (k := 0) hn hlt
        have hle : (divOut p 64 n 0).2 ≤ 64 := by have := divOut_le (p := p) (f := 64) (n := n) (k := 0); omega
        generalize divOut p 64 n 0 = R at *
        obtain ⟨m, k⟩ := R
        simp only at hm he s1 s2 s5 hle ⊢
        have hmn : m ∣ n := ⟨p ^ k, by rw [Nat.mul_comm]; exact he⟩
        have hmle : m ≤ n := Nat.le_of_dvd (by omega) hmn
        have hmin' : ∀ d, 2 ≤ d → d < p + 1 → ¬ d ∣ m := by
          intro d h2 h3 h4
          rcases Nat.lt_or_ge d p with h5 | h5
          · exact hmin d h2 h5 (Nat.dvd_trans h4 hmn)
          · obtain rfl : d = p := by omega
            exact s2 (Nat.mod_eq_zero_of_dvd h4)
        have ih := facLoop_ok f m (p + 1) (by omega) s1 (by omega) hmin' (by
          by_cases hm1 : m = 1
          · exact .inl hm1
          · right
            rcases hf with h | ⟨_, h⟩
            · omega
            · have e : p + 1 + f - 1 = p + (f + 1) - 1 := by omega
              rw [e]
              refine ⟨?_, by omega⟩
              rcases Nat.eq_zero_or_pos f with h0 | h0
              · subst h0
                rw [show p + (0 + 1) - 1 = p by omega] at h
                exact absurd h hsq
              · exact h0)
        have hlift : ∀ x : Nat × Nat, Prime x.1 → p + 1 ≤ x.1 → Mult x.1 x.2 m → Mult x.1 x.2 n := by
          intro x hx hge hmx
          have hnp : ¬ x.1 ∣ p ^ k := by
            intro hd
            have := Nat.le_of_dvd (by omega) (dvd_pow hx hd)
            omega
          have := mult_mul hx (mult_zero hnp) hmx
          rw [Nat.zero_add, ← he] at this
          exact this
        have hprime : p ∣ n → Prime p := fun hd => by
          obtain ⟨t, ht, htp, _⟩ := least_factor p hp
          rcases Nat.lt_or_ge t p with h5 | h5
          · exact absurd (Nat.dvd_trans htp hd) (hmin t ht.1 h5)
          · have := Nat.le_of_dvd (by omega) htp
            obtain rfl : t = p := by omega
            exact ht
        have hsplit : ∀ r, Prime r → r ∣ n → r ∣ m ∨ (r = p ∧ 0 < k) := by
          intro r hr hd
          rw [he] at hd
          rcases euclid hr hd with h5 | h5
          · right
            rcases Nat.eq_zero_or_pos k with h0 | h0
            · rw [h0, Nat.pow_zero] at h5
              have := Nat.le_of_dvd (by omega) h5; have := hr.1; omega
            · have h6 := dvd_pow hr h5
              have hpn : p ∣ n := by rw [he]; exact Nat.dvd_trans ⟨p ^ (k - 1), by rw [← Nat.pow_succ']; congr 1; omega⟩ (Nat.dvd_mul_right _ _)
              rcases (hprime hpn).2 r h6 with h7 | h7
              · have := hr.1; omega
              · exact ⟨h7, h0⟩
          · exact .inl h5
        by_cases hk : 0 < k
        · rw [if_pos hk]
          have hpn : p ∣ n := by rw [he]; exact Nat.dvd_trans ⟨p ^ (k - 1), by rw [← Nat.pow_succ']; congr 1; omega⟩ (Nat.dvd_mul_right _ _)
          refine ⟨fun x hx => ?_, fun r hr hd => ?_, ?_⟩
          · rcases List.mem_cons.1 hx with rfl | h2
            · exact ⟨hprime hpn, Nat.le_refl _, hk, hle, hm⟩
            · obtain ⟨a, b, c, d, e⟩ := ih.each x h2
              exact ⟨a, by omega, c, d, hlift x a b e⟩
          · rcases hsplit r hr hd with h5 | ⟨rfl, _⟩
            · obtain ⟨j, hj⟩ := ih.all r hr h5
              exact ⟨j, List.mem_cons_of_mem _ hj⟩
            · exact ⟨k, by simp⟩
          · exact List.pairwise_cons.2 ⟨fun x hx => by have := (ih.each x hx).2.1; show p < x.1; omega, ih.rises⟩
        · rw [if_neg hk]
          refine ⟨fun x hx => ?_, fun r hr hd => ?_, ih.rises⟩
          · obtain ⟨a, b, c, d, e⟩ := ih.each x hx
            exact ⟨a, by omega, c, d, hlift x a b e⟩
          · rcases hsplit r hr hd with h5 | ⟨_, h6⟩
            · exact ih.all r hr h5
            · exact absurd h6 hk

theorem facs_ok (n : Nat) (h1 : 1 ≤ n) (h2 : n ≤ 1099511627776) : FacOk 2 n (facs n) := by
  refine facLoop_ok _ n 2 (by omega) h1 (by omega) (fun d h3 h4 => by omega) (.inr ⟨by omega, ?_⟩)
  have : (1099511627776 : Nat) < (2 + 1048577 - 1) * (2 + 1048577 - 1) := by decide
  omega

/-- How often p stands on a list. -/
def oftenL (l : List (Nat × Nat)) (p : Nat) : Nat := l.foldl (fun s x => if x.1 = p then s + x.2 else s) 0

theorem often_start : ∀ (l : List (Nat × Nat)) (p s : Nat), l.foldl (fun s x => if x.1 = p then s + x.2 else s) s = s + oftenL l p
  | [], p, s => by simp [oftenL]
  | x :: l, p, s => by
    unfold oftenL
    rw [List.foldl_cons, often_start l, List.foldl_cons, often_start l]
    split <;> omega

theorem often_cons (x : Nat × Nat) (l : List (Nat × Nat)) (p : Nat) : oftenL (x :: l) p = (if x.1 = p then x.2 else 0) + oftenL l p := by
  conv => lhs; unfold oftenL
  rw [List.foldl_cons, often_start]
  split <;> omega

theorem often_none : ∀ (l : List (Nat × Nat)) (p : Nat), (∀ x ∈ l, x.1 ≠ p) → oftenL l p = 0
  | [], p, _ => rfl
  | x :: l, p, h => by rw [often_cons, if_neg (h x (by simp)), often_none l p fun y hy => h y (by simp [hy])]

theorem often_of : ∀ (l : List (Nat × Nat)) (p k : Nat), (l.Pairwise fun x y => x.1 < y.1) → (p, k) ∈ l → oftenL l p = k
  | [], p, k, _, h => by simp at h
  | x :: l, p, k, hr, h => by
    have hr := List.pairwise_cons.1 hr
    rw [often_cons]
    rcases List.mem_cons.1 h with h1 | h1
    · subst h1
      rw [if_pos rfl, often_none l p fun y hy => by have := hr.1 y hy; simp only at this; omega]; rfl
    · have := hr.1 _ h1
      simp only at this
      rw [if_neg (by omega), often_of l p k hr.2 h1, Nat.zero_add]

/-- The list tells every prime's multiplicity. -/
theorem often_mult {n : Nat} {l : List (Nat × Nat)} (h : FacOk 2 n l) {p : Nat} (hp : Prime p) : Mult p (oftenL l p) n := by
  by_cases hd : p ∣ n
  · obtain ⟨k, hk⟩ := h.all p hp hd
    rw [often_of l p k h.rises hk]
    exact (h.each _ hk).2.2.2.2
  · rw [often_none l p fun x hx he => hd ?_]
    · exact mult_zero hd
    · obtain ⟨_, _, c, _, e⟩ := h.each x hx
      rw [he] at e
      exact Nat.dvd_trans ⟨p ^ (x.2 - 1), by rw [← Nat.pow_succ']; congr 1; omega⟩ e.1

theorem often_add {m n : Nat} {l l1 l2 : List (Nat × Nat)} (h : FacOk 2 (m * n) l) (h1 : FacOk 2 m l1) (h2 : FacOk 2 n l2) {p : Nat} (hp : Prime p) : oftenL l p = oftenL l1 p + oftenL l2 p :=
  mult_unique (often_mult h hp) (mult_mul hp (often_mult h1 hp) (often_mult h2 hp))

theorem often_le : ∀ (l : List (Nat × Nat)) (p : Nat), (∀ x ∈ l, x.2 ≤ 64) → oftenL l p ≤ 64 * l.length
  | [], p, _ => by simp [oftenL]
  | x :: l, p, h => by
    rw [often_cons]
    have := often_le l p fun y hy => h y (by simp [hy])
    have := h x (by simp)
    simp only [List.length_cons]
    split <;> omega

/-- A step of the count. -/
theorem often_take (l : List (Nat × Nat)) (p k : Nat) (hk : k < l.length) : oftenL (l.take (k + 1)) p = oftenL (l.take k) p + (if (l.getD k (0, 0)).1 = p then (l.getD k (0, 0)).2 else 0) := by
  rw [List.take_add_one, List.getElem?_eq_getElem hk]
  unfold oftenL
  rw [List.foldl_append]
  simp only [Option.toList_some, List.foldl_cons, List.foldl_nil, List.getD, List.getElem?_eq_getElem hk, Option.getD_some]
  split <;> omega
end Go.Proofs.YtpphfeinmmmckaaDoor
