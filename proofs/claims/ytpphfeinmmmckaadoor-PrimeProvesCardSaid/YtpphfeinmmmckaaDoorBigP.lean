/-
  Plain: closed checks that reach to 2^40: pairs of small primes with one signature.
-/
import Derived.Test.YtpphfeinmmmckaaDoorBigT
namespace Go.Proofs.YtpphfeinmmmckaaDoor
open Nt

def sig2 : List Nat → Nat → Nat
  | [], _ => 0
  | b :: l, p => Nat.add (Nat.mul 2 (sig2 l p)) (bif Nat.beq (pow2d b (Nat.div (Nat.sub p 1) 2) p) 1 then 1 else 0)

theorem sig2_eq : ∀ (l : List Nat) (p : Nat), sig2 l p = sigL l p
  | [], _ => rfl
  | b :: l, p => by rw [sig2, sigL, sig2_eq l p, pow2d_eq]; rfl

/-- The odd numbers from k on, n of them, that may be primes, each with its signature, handed to K. -/
def collect (M : Nat) (K : List (Nat × Nat) → Bool) (k n : Nat) : List (Nat × Nat) → Bool :=
  Nat.rec (motive := fun _ => List (Nat × Nat) → Bool) K (fun i ih acc => force (Nat.add k (Nat.mul 2 i)) fun p => bif skip2 M p then ih acc else force (sig2 baseL p) fun s => ih ((p, s) :: acc)) n

theorem collect_spec {M : Nat} {K : List (Nat × Nat) → Bool} {k : Nat} : ∀ {n : Nat} {acc : List (Nat × Nat)}, collect M K k n acc = true →
    ∃ l, K l = true ∧ (∀ e ∈ acc, e ∈ l) ∧ ∀ i, i < n → skip M (k + 2 * i) = false → (k + 2 * i, sigL baseL (k + 2 * i)) ∈ l
  | 0, acc, h => ⟨acc, h, fun _ he => he, fun i hi => absurd hi (Nat.not_lt_zero _)⟩
  | n + 1, acc, h => by
    have h' : (force (Nat.add k (Nat.mul 2 n)) fun p => bif skip2 M p then collect M K k n acc else force (sig2 baseL p) fun s => collect M K k n ((p, s) :: acc)) = true := h
    rw [force_eq, skip2_eq, force_eq, sig2_eq] at h'
    have e : Nat.add k (Nat.mul 2 n) = k + 2 * n := rfl
    rw [e] at h'
    cases hs : skip M (k + 2 * n) with
    | true =>
      rw [hs, cond_true] at h'
      obtain ⟨l, h1, h2, h3⟩ := collect_spec h'
      refine ⟨l, h1, h2, fun i hi hns => ?_⟩
      rcases Nat.lt_succ_iff_lt_or_eq.1 hi with h4 | rfl
      · exact h3 i h4 hns
      · rw [hs] at hns; cases hns
    | false =>
      rw [hs, cond_false] at h'
      obtain ⟨l, h1, h2, h3⟩ := collect_spec h'
      refine ⟨l, h1, fun e he => h2 e (List.mem_cons_of_mem _ he), fun i hi hns => ?_⟩
      rcases Nat.lt_succ_iff_lt_or_eq.1 hi with h4 | rfl
      · exact h3 i h4 hns
      · exact h2 _ (by simp)

/-- The list, parted by a bit of the signatures. -/
def parted (b : Nat) (K : List (Nat × Nat) → List (Nat × Nat) → Bool) : List (Nat × Nat) → List (Nat × Nat) → List (Nat × Nat) → Bool
  | [], x, y => K x y
  | e :: l, x, y => bif Nat.beq (Nat.mod (Nat.div e.2 b) 2) 0 then parted b K l (e :: x) y else parted b K l x (e :: y)

theorem parted_spec {b : Nat} {K : List (Nat × Nat) → List (Nat × Nat) → Bool} : ∀ {l x y : List (Nat × Nat)}, parted b K l x y = true →
    ∃ x' y', K x' y' = true ∧ (∀ e ∈ x, e ∈ x') ∧ (∀ e ∈ y, e ∈ y') ∧ ∀ e ∈ l, (Nat.beq (Nat.mod (Nat.div e.2 b) 2) 0 = true → e ∈ x') ∧ (Nat.beq (Nat.mod (Nat.div e.2 b) 2) 0 = false → e ∈ y')
  | [], x, y, h => ⟨x, y, h, fun _ he => he, fun _ he => he, fun e he => by simp at he⟩
  | e :: l, x, y, h => by
    rw [parted] at h
    cases hb : Nat.beq (Nat.mod (Nat.div e.2 b) 2) 0 with
    | true =>
      rw [hb, cond_true] at h
      obtain ⟨x', y', h1, h2, h3, h4⟩ := parted_spec h
      refine ⟨x', y', h1, fun e he => h2 e (List.mem_cons_of_mem _ he), h3, fun f hf => ?_⟩
      rcases List.mem_cons.1 hf with rfl | hf
      · exact ⟨fun _ => h2 _ (by simp), fun h5 => by rw [hb] at h5; cases h5⟩
      · exact h4 f hf
    | false =>
      rw [hb, cond_false] at h
      obtain ⟨x', y', h1, h2, h3, h4⟩ := parted_spec h
      refine ⟨x', y', h1, h2, fun e he => h3 e (List.mem_cons_of_mem _ he), fun f hf => ?_⟩
      rcases List.mem_cons.1 hf with rfl | hf
      · exact ⟨(fun h5 => absurd (hb.symm.trans h5) (by simp)), fun _ => h3 _ (by simp)⟩
      · exact h4 f hf

def inner (ok : Nat → Nat → Bool) (p : Nat) : List (Nat × Nat) → Bool
  | [] => true
  | e :: l => ok p e.1 && inner ok p l
def outer (ok : Nat → Nat → Bool) (l0 : List (Nat × Nat)) : List (Nat × Nat) → Bool
  | [] => true
  | e :: l => inner ok e.1 l0 && outer ok l0 l

theorem inner_all {ok : Nat → Nat → Bool} {p : Nat} : ∀ {l : List (Nat × Nat)}, inner ok p l = true → ∀ e ∈ l, ok p e.1 = true
  | [], _, e, he => by simp at he
  | f :: l, h, e, he => by
    rw [inner, Bool.and_eq_true] at h
    rcases List.mem_cons.1 he with rfl | he
    · exact h.1
    · exact inner_all h.2 e he
theorem outer_all {ok : Nat → Nat → Bool} {l0 : List (Nat × Nat)} : ∀ {l : List (Nat × Nat)}, outer ok l0 l = true → ∀ e ∈ l, ∀ f ∈ l0, ok e.1 f.1 = true
  | [], _, e, he => by simp at he
  | g :: l, h, e, he => by
    rw [outer, Bool.and_eq_true] at h
    rcases List.mem_cons.1 he with rfl | he
    · exact inner_all h.1
    · exact outer_all h.2 e he

/-- All pairs with the same signature are right. -/
def grouped (ok : Nat → Nat → Bool) : Nat → List (Nat × Nat) → Bool
  | 0, l => outer ok l l
  | d + 1, l => parted (Nat.pow 2 d) (fun x y => grouped ok d x && grouped ok d y) l [] []

theorem grouped_all {ok : Nat → Nat → Bool} : ∀ {d : Nat} {l : List (Nat × Nat)}, grouped ok d l = true → ∀ p q s, (p, s) ∈ l → (q, s) ∈ l → ok p q = true
  | 0, l, h, p, q, s, hp, hq => outer_all h _ hp _ hq
  | d + 1, l, h, p, q, s, hp, hq => by
    rw [grouped] at h
    obtain ⟨x', y', h1, _, _, h4⟩ := parted_spec h
    rw [Bool.and_eq_true] at h1
    cases hb : Nat.beq (Nat.mod (Nat.div s (Nat.pow 2 d)) 2) 0 with
    | true => exact grouped_all h1.1 p q s ((h4 _ hp).1 hb) ((h4 _ hq).1 hb)
    | false => exact grouped_all h1.2 p q s ((h4 _ hp).2 hb) ((h4 _ hq).2 hb)

/-- Some base tells that n is composite, by Fermat's test. -/
def told (n : Nat) : Bool := !(Nat.beq (Nat.gcd n baseM) 1) || baseL.any fun b => !(Nat.beq (pow4d b (Nat.sub n 1) n) 1)

theorem told_spec {n : Nat} (hn : 2 ≤ n) (h : told n = true) : ∃ b ∈ baseL, b ^ (n - 1) % n ≠ 1 := by
  unfold told at h
  rw [Bool.or_eq_true] at h
  rcases h with h | h
  · have hg : Nat.gcd n baseM ≠ 1 := by
      intro e
      rw [e] at h
      simp at h
    have hg0 : Nat.gcd n baseM ≠ 0 := by
      intro e
      have := Nat.gcd_pos_of_pos_left baseM (show 0 < n by omega)
      omega
    obtain ⟨r, hr, hrd, _⟩ := least_factor (Nat.gcd n baseM) (by omega)
    have hrn : r ∣ n := Nat.dvd_trans hrd (Nat.gcd_dvd_left _ _)
    have hrM : r ∣ baseM := Nat.dvd_trans hrd (Nat.gcd_dvd_right _ _)
    by_cases hex : ∃ b ∈ baseL, r ∣ b
    · obtain ⟨b, hb, hrb⟩ := hex
      refine ⟨b, hb, fun e => ?_⟩
      have h1 : r ∣ b ^ (n - 1) := by
        obtain ⟨k, hk⟩ : ∃ k, n - 1 = k + 1 := ⟨n - 2, by omega⟩
        rw [hk, Nat.pow_succ]
        exact Nat.dvd_trans hrb (Nat.dvd_mul_left _ _)
      have h2 : r ∣ b ^ (n - 1) % n := (Nat.dvd_mod_iff hrn).2 h1
      rw [e] at h2
      have := Nat.le_of_dvd (by omega) h2
      have := hr.1
      omega
    · exfalso
      rw [baseM_eq] at hrM
      exact prod_coprime hr baseL (fun b hb hd => hex ⟨b, hb, hd⟩) hrM
  · rw [List.any_eq_true] at h
    obtain ⟨b, hb, hne⟩ := h
    refine ⟨b, hb, fun e => ?_⟩
    rw [pow4d_eq] at hne
    have e' : b ^ Nat.sub n 1 % n = 1 := e
    rw [e'] at hne
    simp at hne

/-- Euclid's rule: a number that, times the second, is the gcd modulo L. -/
def inv (L : Nat) : Nat → Nat → Nat → Nat → Nat → Nat
  | 0, _, _, t0, _ => t0
  | f + 1, r0, r1, t0, t1 => bif Nat.beq r1 0 then t0 else
    force (Nat.mod r0 r1) fun r2 => force (Nat.mod (Nat.add t0 (Nat.mul (Nat.sub L (Nat.mod (Nat.div r0 r1) L)) t1)) L) fun t2 => inv L f r1 r2 t1 t2

/-- Every multiple of a that is 1 modulo L, up to B, is told. -/
def mults (B a L c : Nat) : Bool := (Nat.blt c L && Nat.beq (Nat.mod (Nat.mul a c) L) 1) && allFrom (fun t => force (Nat.mul a (Nat.add c (Nat.mul L t))) told) 0 (Nat.succ (Nat.div B (Nat.mul a L)))

theorem mults_spec {B a L c n : Nat} (h : mults B a L c = true) (ha : 0 < a) (hL : 2 ≤ L) (hn : a * n ≤ B) (h1 : a * n % L = 1) : told (a * n) = true := by
  unfold mults at h
  rw [Bool.and_eq_true, Bool.and_eq_true] at h
  obtain ⟨⟨h2, h3⟩, h4⟩ := h
  have hc : c < L := Nat.le_of_ble_eq_true h2
  have hac : a * c % L = 1 := Nat.eq_of_beq_eq_true h3
  have e1 : n * (a * c) % L = n % L := by rw [Nat.mul_mod, hac, Nat.mul_one, Nat.mod_mod]
  have e2 : c * (a * n) % L = c % L := by rw [Nat.mul_mod, h1, Nat.mul_one, Nat.mod_mod]
  have e3 : n % L = c := by
    rw [← e1, show n * (a * c) = c * (a * n) by simp only [Nat.mul_comm, Nat.mul_left_comm], e2, Nat.mod_eq_of_lt hc]
  have e4 : n = c + L * (n / L) := by rw [← e3, Nat.mod_add_div]
  have hb : n / L ≤ B / (a * L) := by
    rw [Nat.le_div_iff_mul_le (Nat.mul_pos ha (by omega))]
    have h5 : L * (n / L) ≤ n := Nat.mul_div_le n L
    have h6 : a * (L * (n / L)) ≤ a * n := Nat.mul_le_mul_left _ h5
    have e5 : n / L * (a * L) = a * (L * (n / L)) := by simp only [Nat.mul_comm, Nat.mul_left_comm]
    omega
  have h7 := allFrom_spec h4 (n / L) (Nat.lt_succ_of_le hb)
  rw [Nat.zero_add, force_eq] at h7
  have e6 : Nat.mul a (Nat.add c (Nat.mul L (n / L))) = a * n := by
    show a * (c + L * (n / L)) = a * n
    rw [← e4]
  rwa [e6] at h7

/-- What is asked of two primes with one signature. -/
def pairOk (B p q : Nat) : Bool :=
  Nat.ble q p || (Nat.blt B (Nat.mul p (Nat.mul q q)) ||
    force (Nat.mul p q) fun a => force (Nat.div (Nat.mul (Nat.sub p 1) (Nat.sub q 1)) (Nat.gcd (Nat.sub p 1) (Nat.sub q 1))) fun L =>
      !(Nat.beq (Nat.gcd a L) 1) || force (inv L 100 L (Nat.mod a L) 0 1) (mults B a L))

theorem pairOk_spec {B p q c : Nat} (h : pairOk B p q = true) (hp : 3 ≤ p) (hpq : p < q) (hB : p * (q * q) ≤ B) (hc : p * q * c ≤ B) (h1 : p * q * c % (q - 1) = 1) (h2 : p * q * c % (p - 1) = 1) :
    ∃ b ∈ baseL, b ^ (p * q * c - 1) % (p * q * c) ≠ 1 := by
  unfold pairOk at h
  rw [Bool.or_eq_true, Bool.or_eq_true, force_eq, force_eq, force_eq, Bool.or_eq_true] at h
  have e1 : Nat.mul p q = p * q := rfl
  have e2 : Nat.div (Nat.mul (Nat.sub p 1) (Nat.sub q 1)) (Nat.gcd (Nat.sub p 1) (Nat.sub q 1)) = Nat.lcm (p - 1) (q - 1) := rfl
  rw [e1, e2] at h
  obtain ⟨n, hn⟩ : ∃ n, n = p * q * c := ⟨_, rfl⟩
  have hn0 : n ≠ 0 := by
    intro h0
    rw [← hn, h0, Nat.zero_mod] at h1
    omega
  have hdq : (q - 1) ∣ n - 1 := by
    rw [hn]
    refine mod_eq_dvd (by rw [h1]; exact (Nat.mod_eq_of_lt (by omega)).symm) (by omega)
  have hdp : (p - 1) ∣ n - 1 := by
    rw [hn]
    refine mod_eq_dvd (by rw [h2]; exact (Nat.mod_eq_of_lt (by omega)).symm) (by omega)
  have hL : Nat.lcm (p - 1) (q - 1) ∣ n - 1 := Nat.lcm_dvd hdp hdq
  have hL2 : 2 ≤ Nat.lcm (p - 1) (q - 1) := by
    have h3 : (p - 1) ∣ Nat.lcm (p - 1) (q - 1) := Nat.dvd_lcm_left _ _
    have h4 : 0 < Nat.lcm (p - 1) (q - 1) := Nat.lcm_pos (by omega) (by omega)
    have := Nat.le_of_dvd h4 h3
    omega
  obtain ⟨L, hLe⟩ : ∃ L, L = Nat.lcm (p - 1) (q - 1) := ⟨_, rfl⟩
  rw [← hLe] at h hL hL2
  rcases h with h | h | h | h
  · exact absurd (Nat.le_of_ble_eq_true h) (by omega)
  · exact absurd (Nat.le_of_ble_eq_true h : B < p * (q * q)) (by omega)
  · exfalso
    have hg : Nat.gcd (p * q) L = 1 := by
      have h3 : Nat.gcd (p * q) L ∣ n := Nat.dvd_trans (Nat.gcd_dvd_left _ _) ⟨c, hn⟩
      have h4 : Nat.gcd (p * q) L ∣ n - 1 := Nat.dvd_trans (Nat.gcd_dvd_right _ _) hL
      have h5 : Nat.gcd (p * q) L ∣ n - (n - 1) := Nat.dvd_sub h3 h4
      rw [show n - (n - 1) = 1 by omega] at h5
      exact Nat.dvd_one.1 h5
    rw [hg] at h
    simp at h
  · have h3 : p * q * c % L = 1 := by
      obtain ⟨u, hu⟩ := hL
      have e3 : p * q * c = 1 + L * u := by omega
      rw [e3, Nat.add_mul_mod_self_left, Nat.mod_eq_of_lt (by omega)]
    have h4 := mults_spec h (Nat.mul_pos (by omega) (by omega)) hL2 hc h3
    refine told_spec ?_ h4
    rw [← hn]
    rcases n with _ | _ | n
    · exact absurd rfl hn0
    · exfalso
      have h5 : p * q ∣ 1 := ⟨c, by rw [← hn]⟩
      have h6 := Nat.le_of_dvd (by omega) h5
      have : 3 * 1 ≤ p * q := Nat.mul_le_mul hp (by omega)
      omega
    · omega

def pairsAll (B n : Nat) : Bool := force baseM fun M => collect M (grouped (pairOk B) 12) 41 n []

theorem pairsAll_spec {B n : Nat} (h : pairsAll B n = true) {p q c : Nat} (hp : Prime p) (hq : Prime q) (hp41 : 41 ≤ p) (hpq : p < q) (hqn : q < 41 + 2 * n) (hB : p * (q * q) ≤ B) (hsig : sigL baseL p = sigL baseL q)
    (hc : p * q * c ≤ B) (h1 : p * q * c % (q - 1) = 1) (h2 : p * q * c % (p - 1) = 1) : ∃ b ∈ baseL, b ^ (p * q * c - 1) % (p * q * c) ≠ 1 := by
  unfold pairsAll at h
  rw [force_eq] at h
  obtain ⟨l, hl, _, hmem⟩ := collect_spec h
  have key : ∀ r, Prime r → 41 ≤ r → r < 41 + 2 * n → (r, sigL baseL r) ∈ l := by
    intro r hr hr41 hrn
    have ho : r % 2 ≠ 0 := by
      intro h0
      rcases hr.2 2 (Nat.dvd_of_mod_eq_zero h0) with h3 | h3 <;> omega
    have e : r = 41 + 2 * ((r - 41) / 2) := by omega
    have := hmem ((r - 41) / 2) (by omega) (by rw [← e]; exact prime_no_skip hr (by omega) (baseM_not hr (by omega)))
    rwa [← e] at this
  have hpm := key p hp hp41 (by omega)
  have hqm := key q hq (by omega) hqn
  rw [← hsig] at hqm
  exact pairOk_spec (grouped_all hl p q _ hpm hqm) (by omega) hpq hB hc h1 h2
end Go.Proofs.YtpphfeinmmmckaaDoor
