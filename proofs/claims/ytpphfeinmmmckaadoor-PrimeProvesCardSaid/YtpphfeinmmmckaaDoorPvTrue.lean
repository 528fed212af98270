/-
  Plain: a step by the factors of p - 1 and a primitive root is right; a paper goes on.
-/
import Derived.Test.YtpphfeinmmmckaaDoorShownTrue
import Derived.Test.YtpphfeinmmmckaaDoorFacTrue
import Derived.Test.YtpphfeinmmmckaaDoorRoot
namespace Go.Proofs.YtpphfeinmmmckaaDoor
open Nt (Prime euclid prime_split prim_root least_factor)

def powProd : List (Nat × Nat) → Nat
  | [] => 1
  | x :: l => x.1 ^ x.2 * powProd l

theorem fac_prod : ∀ (l : List (Nat × Nat)) (n : Nat), 1 ≤ n → (∀ x ∈ l, Prime x.1 ∧ Mult x.1 x.2 n) → (∀ r, Prime r → r ∣ n → ∃ k, (r, k) ∈ l) → (l.Pairwise fun x y => x.1 < y.1) → powProd l = n
  | [], n, hn, _, hall, _ => by
    rcases Nat.lt_or_ge n 2 with h | h
    · show 1 = n; omega
    · obtain ⟨r, hr, hd, _⟩ := least_factor n h
      obtain ⟨k, hk⟩ := hall r hr hd
      simp at hk
  | x :: l, n, hn, heach, hall, hris => by
    obtain ⟨hx, hm⟩ := heach x (by simp)
    have hx0 : 0 < x.1 := by have := hx.1; omega
    obtain ⟨m, hnm, hxm⟩ := (mult_iff hx0).1 hm
    have hm0 : 1 ≤ m := by
      rcases m with _ | m
      · exact absurd (Nat.dvd_zero _) hxm
      · omega
    rw [List.pairwise_cons] at hris
    have ih := fac_prod l m hm0 (fun y hy => by
      obtain ⟨hy1, hy2⟩ := heach y (List.mem_cons_of_mem _ hy)
      refine ⟨hy1, ?_⟩
      have hne : x.1 < y.1 := hris.1 y hy
      obtain ⟨j, c, hc, hyc⟩ := prime_split hy1 m hm0
      have hj : Mult y.1 j m := (mult_iff (by have := hy1.1; omega)).2 ⟨c, hc, hyc⟩
      have hnp : ¬ y.1 ∣ x.1 ^ x.2 := fun hd => by
        rcases hx.2 y.1 (Nt.dvd_pow hy1 hd) with h | h
        · have := hy1.1; omega
        · omega
      have h1 := mult_mul hy1 (mult_zero hnp) hj
      rw [Nat.zero_add, ← hnm] at h1
      rw [← mult_unique h1 hy2]
      exact hj) (fun r hr hd => by
      obtain ⟨k, hk⟩ := hall r hr (Nat.dvd_trans hd ⟨x.1 ^ x.2, by rw [hnm, Nat.mul_comm]⟩)
      rcases List.mem_cons.1 hk with h | h
      · exfalso
        rw [← h] at hxm
        exact hxm hd
      · exact ⟨k, h⟩) hris.2
    rw [powProd, ih, ← hnm]

theorem divs_pow {q : Nat} (hq : 2 ≤ q) : ∀ (e m : Nat), divs q e (q ^ e * m) = some m
  | 0, m => by rw [divs, Nat.pow_zero, Nat.one_mul]
  | e + 1, m => by
    have e1 : q ^ (e + 1) * m = q * (q ^ e * m) := by rw [Nat.pow_succ]; simp only [Nat.mul_comm, Nat.mul_left_comm]
    rw [divs, e1, if_pos (Nat.mul_mod_right q _), Nat.mul_div_cancel_left _ (by omega)]
    exact divs_pow hq e m

def fstL (l : List (Nat × Nat)) : List Nat := l.map fun x => x.1
def sndL (l : List (Nat × Nat)) : List Int := l.map fun x => (x.2 : Int)

theorem prodL_pow : ∀ (l : List (Nat × Nat)), (∀ x ∈ l, 2 ≤ x.1 ∧ 1 ≤ x.2 ∧ x.2 ≤ 63) → prodL (fstL l) (sndL l) (powProd l) = true
  | [], _ => rfl
  | x :: l, h => by
    obtain ⟨h1, h2, h3⟩ := h x (by simp)
    have ih := prodL_pow l fun y hy => h y (List.mem_cons_of_mem _ hy)
    show prodL (x.1 :: fstL l) ((x.2 : Int) :: sndL l) (x.1 ^ x.2 * powProd l) = true
    rw [prodL, if_neg (by omega), Int.toNat_natCast, divs_pow h1]
    exact ih

theorem pow_lt_exp {q e n : Nat} (hq : 2 ≤ q) (h : q ^ e ≤ n) (hn : n < 2 ^ 64) : e ≤ 63 := by
  rcases Nat.lt_or_ge e 64 with h1 | h1
  · omega
  · have h2 : 2 ^ 64 ≤ 2 ^ e := Nat.pow_le_pow_right (by omega) h1
    have h3 : 2 ^ e ≤ q ^ e := Nat.pow_le_pow_left hq e
    omega

theorem facs_prod {n : Nat} (h1 : 1 ≤ n) (h2 : n ≤ 1099511627776) : powProd (facs n) = n ∧ (∀ x ∈ facs n, 2 ≤ x.1 ∧ 1 ≤ x.2 ∧ x.2 ≤ 63 ∧ Prime x.1 ∧ x.1 ∣ n) := by
  have h := facs_ok n h1 h2
  refine ⟨fac_prod _ n h1 (fun x hx => ⟨(h.each x hx).1, (h.each x hx).2.2.2.2⟩) h.all h.rises, fun x hx => ?_⟩
  obtain ⟨a, b, c, _, m⟩ := h.each x hx
  have hle : x.1 ^ x.2 ≤ n := Nat.le_of_dvd h1 m.1
  refine ⟨b, c, pow_lt_exp b hle (by omega), a, ?_⟩
  refine Nat.dvd_trans ?_ m.1
  obtain ⟨k, hk⟩ : ∃ k, x.2 = k + 1 := ⟨x.2 - 1, by omega⟩
  rw [hk, Nat.pow_succ]
  exact Nat.dvd_mul_left _ _

/-- The product of a list. -/
def prd : List Nat → Nat
  | [] => 1
  | q :: l => q * prd l

theorem prd_le : ∀ (l : List (Nat × Nat)), (∀ x ∈ l, 2 ≤ x.1 ∧ 1 ≤ x.2) → prd (fstL l) ≤ powProd l
  | [], _ => Nat.le_refl _
  | x :: l, h => by
    obtain ⟨h1, h2⟩ := h x (by simp)
    have ih := prd_le l fun y hy => h y (List.mem_cons_of_mem _ hy)
    show x.1 * prd (fstL l) ≤ x.1 ^ x.2 * powProd l
    refine Nat.mul_le_mul ?_ ih
    calc x.1 = x.1 ^ 1 := (Nat.pow_one _).symm
      _ ≤ x.1 ^ x.2 := Nat.pow_le_pow_right (by omega) h2

theorem prd_snoc : ∀ (l : List Nat) (q : Nat), prd (l ++ [q]) = prd l * q
  | [], q => by simp [prd]
  | x :: l, q => by
    show x * prd (l ++ [q]) = x * prd l * q
    rw [prd_snoc l q, Nat.mul_assoc]

theorem prd_take {Q : List Nat} {i : Nat} (hi : i < Q.length) : prd (Q.take (i + 1)) = prd (Q.take i) * Q.getD i 0 := by
  have e : Q.getD i 0 = Q[i] := by simp [List.getD, hi]
  rw [List.take_succ_eq_append_getElem hi, prd_snoc, e]

/-- G shows p to be a prime, by the factors of p - 1. -/
def GoodG (p G : Nat) : Bool := ordF G (p - 1) p (fstL (facs (p - 1)))

theorem good_exists {p : Nat} (hp : Prime p) (h3 : 3 ≤ p) (h40 : p ≤ 1099511627776) : ∃ g, 2 ≤ g ∧ g < p ∧ GoodG p g = true := by
  obtain ⟨g, h1, h2, h4, h5⟩ := prim_root hp h3
  refine ⟨g, h1, h2, ?_⟩
  rw [GoodG, ordF, h4, show ((1 : Nat) == 1) = true from rfl, Bool.true_and, List.all_eq_true]
  intro q hq
  obtain ⟨x, hx, rfl⟩ := List.mem_map.1 hq
  obtain ⟨_, _, _, hpr, hd⟩ := (facs_prod (n := p - 1) (by omega) (by omega)).2 x hx
  rw [notOne, Bool.not_eq_true', beq_eq_false_iff_ne]
  exact h5 x.1 hpr hd
def GoodL (l : List StepV) : Prop := ∀ k, k < l.length → stepOk l k (l.getD k default) = true

theorem shownF_app {l m : List StepV} {k : Nat} (hk : k ≤ l.length) (q : Nat) : shownF (l ++ m) k q = shownF l k q := by
  unfold shownF
  rw [List.take_append_of_le_length hk]

theorem stepOk_app {l m : List StepV} {k : Nat} (hk : k ≤ l.length) (s : StepV) : stepOk (l ++ m) k s = stepOk l k s := by
  unfold stepOk
  congr 1
  congr 1
  funext i
  unfold qOk
  rw [shownF_app hk]

theorem getD_app {l m : List StepV} {k : Nat} (hk : k < l.length) : (l ++ m).getD k default = l.getD k default := by
  simp [List.getD, hk, List.getElem?_append_left hk]

theorem goodL_snoc {l : List StepV} {s : StepV} (h : GoodL l) (hs : stepOk l l.length s = true) : GoodL (l ++ [s]) := by
  intro k hk
  rw [List.length_append, List.length_singleton] at hk
  rcases Nat.lt_or_ge k l.length with h1 | h1
  · rw [stepOk_app (by omega), getD_app h1]; exact h k h1
  · obtain rfl : k = l.length := by omega
    rw [stepOk_app (Nat.le_refl _)]
    have e : (l ++ [s]).getD l.length default = s := by simp [List.getD]
    rw [e]; exact hs

theorem shownF_mono {l m : List StepV} {q : Nat} (h : shownF l l.length q = true) : shownF (l ++ m) (l ++ m).length q = true := by
  unfold shownF at h ⊢
  rw [List.take_length] at h ⊢
  rw [Bool.or_eq_true] at h ⊢
  rcases h with h | h
  · left; rw [List.any_append, h]; rfl
  · exact .inr h

theorem shownF_last (l : List StepV) (s : StepV) : shownF (l ++ [s]) (l ++ [s]).length s.N = true := by
  unfold shownF
  rw [List.take_length, List.any_append]
  simp

theorem step_good {l : List StepV} {p G : Nat} {qa ea : Option Addr} {qc ec : Nat} (h3 : 3 ≤ p) (h40 : p ≤ 1099511627776) (hG : 2 ≤ G ∧ G < p ∧ GoodG p G = true)
    (hQ : ∀ q ∈ fstL (facs (p - 1)), shownF l l.length q = true) : stepOk l l.length ⟨p, G, fstL (facs (p - 1)), sndL (facs (p - 1)), qa, ea, qc, ec⟩ = true := by
  obtain ⟨hpp, heach⟩ := facs_prod (n := p - 1) (by omega) (by omega)
  have hok := facs_ok (p - 1) (by omega) (by omega)
  rw [stepOk, Bool.and_eq_true]
  constructor
  · show headV p G (fstL (facs (p - 1))).length (sndL (facs (p - 1))).length (prodL (fstL (facs (p - 1))) (sndL (facs (p - 1))) (p - 1)) (ordF G (p - 1) p (fstL (facs (p - 1)))) = true
    rw [headV, if_neg (by omega), if_neg (by omega), if_neg (by omega), if_neg (by omega), if_neg (by simp [fstL, sndL])]
    have h1 := prodL_pow (facs (p - 1)) fun x hx => by
      obtain ⟨a, b, c, _⟩ := heach x hx
      exact ⟨a, b, c⟩
    rw [hpp] at h1
    rw [h1, Bool.true_and]
    exact hG.2.2
  · rw [List.all_eq_true]
    intro i hi
    rw [List.mem_range] at hi
    have hi' : i < (fstL (facs (p - 1))).length := hi
    have e : (fstL (facs (p - 1))).getD i 0 = (fstL (facs (p - 1)))[i] := by simp [List.getD, hi']
    show qOk l l.length (fstL (facs (p - 1))) i = true
    rw [qOk, e, hQ _ (List.getElem_mem hi'), Bool.true_and]
    rcases Nat.eq_zero_or_pos i with h0 | h0
    · subst h0; rfl
    · have hj : i - 1 < (fstL (facs (p - 1))).length := by omega
      have e2 : (fstL (facs (p - 1))).getD (i - 1) 0 = (fstL (facs (p - 1)))[i - 1] := by simp [List.getD, hj]
      have hr : (fstL (facs (p - 1))).Pairwise (· < ·) := by
        unfold fstL
        rw [List.pairwise_map]
        exact hok.rises
      have := List.pairwise_iff_getElem.1 hr (i - 1) i hj hi' (by omega)
      rw [e2]
      simp; omega

/-- The primes of p - 1, and their product. -/
theorem facs_small {p : Nat} (h3 : 3 ≤ p) (h40 : p ≤ 1099511627776) : (∀ q ∈ fstL (facs (p - 1)), Nt.Prime q ∧ q < p) ∧ prd (fstL (facs (p - 1))) ≤ p - 1 := by
  obtain ⟨hpp, heach⟩ := facs_prod (n := p - 1) (by omega) (by omega)
  refine ⟨fun q hq => ?_, ?_⟩
  · obtain ⟨x, hx, rfl⟩ := List.mem_map.1 hq
    obtain ⟨_, _, _, hpr, hd⟩ := heach x hx
    have := Nat.le_of_dvd (by omega) hd
    exact ⟨hpr, by omega⟩
  · have h1 := prd_le (facs (p - 1)) fun x hx => by
      obtain ⟨a, b, _⟩ := heach x hx
      exact ⟨a, b⟩
    rw [hpp] at h1
    exact h1

theorem prd_pos : ∀ (l : List Nat), (∀ q ∈ l, 1 ≤ q) → 1 ≤ prd l
  | [], _ => Nat.le_refl _
  | q :: l, h => Nat.mul_pos (h q (by simp)) (prd_pos l fun x hx => h x (List.mem_cons_of_mem _ hx))

/-- One prime more: the count stays below the product. -/
theorem count_next {t P q n : Nat} (h1 : t + 1 ≤ P) (hq : 2 ≤ q) (hn : n + 1 ≤ q) : t + n + 1 ≤ P * q := by
  obtain ⟨a, rfl⟩ : ∃ a, P = a + 1 := ⟨P - 1, by omega⟩
  obtain ⟨b, rfl⟩ : ∃ b, q = b + 1 := ⟨q - 1, by omega⟩
  have : (a + 1) * (b + 1) = a * b + a + b + 1 := by rw [Nat.add_mul, Nat.mul_add, Nat.mul_one, Nat.one_mul]; omega
  omega
end Go.Proofs.YtpphfeinmmmckaaDoor
