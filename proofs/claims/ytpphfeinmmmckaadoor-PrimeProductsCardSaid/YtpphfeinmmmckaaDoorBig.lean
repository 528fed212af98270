/-
  Plain: closed checks that reach to 2^40: the functions that the kernel reckons with, and what they say.
-/
import Derived.Test.YtpphfeinmmmckaaDoorCompMain
namespace Go.Proofs.YtpphfeinmmmckaaDoor
open Nt

/-- One digit more, to the base K, of a power's exponent. -/
def powS (K x b e n : Nat) : Nat := Nat.mod (Nat.mul (Nat.pow x K) (Nat.pow b (Nat.mod e K))) n
def pow2d (b e n : Nat) : Nat := powS 1024 (Nat.mod (Nat.pow b (Nat.div e 1024)) n) b e n
def pow4d (b e n : Nat) : Nat := powS 1024 (powS 1024 (pow2d b (Nat.div e 1048576) n) b (Nat.div e 1024) n) b e n

theorem powS_eq {K b e n x : Nat} (hx : x = b ^ (e / K) % n) : powS K x b e n = b ^ e % n := by
  show (x ^ K * b ^ (e % K)) % n = b ^ e % n
  rw [hx, Nat.mul_mod, ← Nat.pow_mod, ← Nat.mul_mod, ← Nat.pow_mul, ← Nat.pow_add, Nat.mul_comm (e / K) K, Nat.div_add_mod]
theorem pow2d_eq (b e n : Nat) : pow2d b e n = b ^ e % n := powS_eq rfl
theorem pow4d_eq (b e n : Nat) : pow4d b e n = b ^ e % n := by
  unfold pow4d
  refine powS_eq (powS_eq ?_)
  rw [pow2d_eq]
  show b ^ (e / 1048576) % n = b ^ (e / 1024 / 1024) % n
  rw [Nat.div_div_eq_div_mul]

def tst2 (p e : Nat) : Bool := baseL.any fun b => !(Nat.beq (pow2d b e p) 1)
theorem tst2_eq (p e : Nat) : tst2 p e = tst p e := by
  unfold tst2 tst
  congr 1
  funext b
  rw [pow2d_eq]
  rfl

def skip2 (M p : Nat) : Bool := !(Nat.beq (Nat.gcd p M) 1) || !(Nat.beq (pow2d 2 (Nat.sub p 1) p) 1)
theorem skip2_eq (M p : Nat) : skip2 M p = skip M p := by unfold skip2 skip; rw [pow2d_eq]; rfl

def wief2 (p : Nat) : Bool := !(Nat.beq (pow2d 2 (Nat.sub p 1) (Nat.mul p p)) 1) || !(Nat.beq (pow2d 3 (Nat.sub p 1) (Nat.mul p p)) 1)
theorem wief2_eq (p : Nat) : wief2 p = wief p := by unfold wief2 wief; rw [pow2d_eq, pow2d_eq]; rfl

/-- A tree of primes; each node holds the product of all below it, on either side. -/
inductive FT where
  | leaf (r : Nat)
  | node (P : Nat) (l : FT) (Q : Nat) (r : FT)

def FT.leaves : FT → List Nat
  | .leaf r => [r]
  | .node _ l _ r => l.leaves ++ r.leaves

/-- Every leaf divides the products above it. -/
def FT.ok : FT → Bool
  | .leaf _ => true
  | .node P l Q r => l.leaves.all (fun x => Nat.beq (Nat.mod P x) 0) && (r.leaves.all (fun x => Nat.beq (Nat.mod Q x) 0) && (l.ok && r.ok))

def chkT : FT → Nat → Nat → Bool
  | .leaf r, p, _ => tst2 p (Nat.div (Nat.sub p 1) r)
  | .node P l Q r, p, g => force (Nat.gcd g P) (fun a => Nat.beq a 1 || chkT l p a) && force (Nat.gcd g Q) (fun b => Nat.beq b 1 || chkT r p b)

theorem chkT_spec : ∀ (t : FT) (p g : Nat), t.ok = true → chkT t p g = true → ∀ s ∈ t.leaves, 2 ≤ s → s ∣ g → tst p ((p - 1) / s) = true
  | .leaf r, p, g, _, h, s, hs, _, _ => by
    rw [FT.leaves, List.mem_singleton] at hs
    subst hs
    rw [chkT, tst2_eq] at h
    exact h
  | .node P l Q r, p, g, hok, h, s, hs, h2, hd => by
    rw [FT.ok, Bool.and_eq_true, Bool.and_eq_true, Bool.and_eq_true, List.all_eq_true, List.all_eq_true] at hok
    rw [chkT, force_eq, force_eq, Bool.and_eq_true, Bool.or_eq_true, Bool.or_eq_true] at h
    rw [FT.leaves, List.mem_append] at hs
    obtain ⟨hP, hQ, hl, hr⟩ := hok
    rcases hs with hs | hs
    · have hsg : s ∣ Nat.gcd g P := Nat.dvd_gcd hd (Nat.dvd_of_mod_eq_zero (Nat.eq_of_beq_eq_true (hP s hs)))
      rcases h.1 with h1 | h1
      · exfalso
        have e := Nat.eq_of_beq_eq_true h1
        rw [e] at hsg
        have := Nat.le_of_dvd (by omega) hsg
        omega
      · exact chkT_spec l p _ hl h1 s hs h2 hsg
    · have hsg : s ∣ Nat.gcd g Q := Nat.dvd_gcd hd (Nat.dvd_of_mod_eq_zero (Nat.eq_of_beq_eq_true (hQ s hs)))
      rcases h.2 with h1 | h1
      · exfalso
        have e := Nat.eq_of_beq_eq_true h1
        rw [e] at hsg
        have := Nat.le_of_dvd (by omega) hsg
        omega
      · exact chkT_spec r p _ hr h1 s hs h2 hsg

/-- For each prime s of D: some base to the (p - 1) / s is not 1 modulo p. -/
def facT (T : FT) (P p D : Nat) : Bool :=
  force (Nat.gcd D P) fun g => chkT T p g && force (Nat.div D (Nat.gcd D (Nat.pow g 20))) fun c => Nat.beq c 1 || tst2 p (Nat.div (Nat.sub p 1) c)

theorem dvd_prodL {x : Nat} : ∀ {l : List Nat}, x ∈ l → x ∣ Nt.prodL l
  | [], h => by simp at h
  | y :: l, h => by
    rw [Nt.prodL]
    rcases List.mem_cons.1 h with rfl | h
    · exact Nat.dvd_mul_right _ _
    · exact Nat.dvd_trans (dvd_prodL h) (Nat.dvd_mul_left _ _)

theorem facT_spec {T : FT} {P p D : Nat} (hok : T.ok = true) (hP : P = Nt.prodL T.leaves) (hpr : ∀ r ∈ T.leaves, Prime r) (hall : ∀ s, Prime s → s ∈ T.leaves ∨ 1024 ≤ s)
    (hD0 : 0 < D) (hD : D < 1048576) (h : facT T P p D = true) : ∀ s, Prime s → s ∣ D → tst p ((p - 1) / s) = true := by
  intro s hs hd
  unfold facT at h
  rw [force_eq, force_eq, Bool.and_eq_true, Bool.or_eq_true] at h
  by_cases hm : s ∈ T.leaves
  · exact chkT_spec T p _ hok h.1 s hm hs.1 (Nat.dvd_gcd hd (hP ▸ dvd_prodL hm))
  have hsP : ¬ s ∣ P := by
    rw [hP]
    refine prod_coprime hs _ fun x hx hdx => ?_
    rcases (hpr x hx).2 s hdx with h1 | h1
    · have := hs.1; omega
    · exact hm (h1 ▸ hx)
  obtain ⟨g, hg⟩ : ∃ g, g = Nat.gcd D P := ⟨_, rfl⟩
  rw [← hg] at h
  have hgd : Nat.gcd D (Nat.pow g 20) ∣ D := Nat.gcd_dvd_left _ _
  obtain ⟨c, hc⟩ : ∃ c, c = D / Nat.gcd D (Nat.pow g 20) := ⟨_, rfl⟩
  have e : D = c * Nat.gcd D (Nat.pow g 20) := by rw [hc]; exact (Nat.div_mul_cancel hgd).symm
  have hsc : s ∣ c := by
    have h1 : s ∣ c * Nat.gcd D (Nat.pow g 20) := e ▸ hd
    rcases euclid hs h1 with h2 | h2
    · exact h2
    · exfalso
      have h3 : s ∣ g ^ 20 := Nat.dvd_trans h2 (Nat.gcd_dvd_right _ _)
      have h4 := dvd_pow hs h3
      rw [hg] at h4
      exact hsP (Nat.dvd_trans h4 (Nat.gcd_dvd_right _ _))
  have hbig : ∀ r, Prime r → r ∣ c → 1024 ≤ r := by
    intro r hr hrc
    rcases hall r hr with h1 | h1
    · exfalso
      have hrD : r ∣ D := Nat.dvd_trans hrc ⟨_, e⟩
      have hrg : r ∣ g := by rw [hg]; exact Nat.dvd_gcd hrD (hP ▸ dvd_prodL h1)
      have h2 : Nat.gcd D (r ^ 20) ∣ Nat.gcd D (Nat.pow g 20) := Nat.dvd_gcd (Nat.gcd_dvd_left _ _) (Nat.dvd_trans (Nat.gcd_dvd_right _ _) (Nat.pow_dvd_pow_iff (by omega) |>.2 hrg))
      obtain ⟨t, ht⟩ := h2
      have hpos : 0 < Nat.gcd D (r ^ 20) := Nat.gcd_pos_of_pos_left _ hD0
      have h3 : D / Nat.gcd D (r ^ 20) = c * t := by
        refine Nat.div_eq_of_eq_mul_left hpos ?_
        rw [Nat.mul_assoc, Nat.mul_comm t, ← ht]
        exact e
      exact not_dvd_strip hr hD0 (by omega) (h3 ▸ Nat.dvd_trans hrc (Nat.dvd_mul_right _ _))
    · exact h1
  have hcs : c = s := by
    obtain ⟨c', hc'⟩ := hsc
    rcases Nat.lt_or_ge c' 2 with h2 | h2
    · rcases c' with _ | _ | c'
      · rw [Nat.mul_zero] at hc'
        rw [hc', Nat.zero_mul] at e
        omega
      · rw [hc', Nat.mul_one]
      · omega
    · exfalso
      obtain ⟨r, hr, hrc, _⟩ := least_factor c' h2
      have h3 := hbig s hs ⟨c', hc'⟩
      have h4 := hbig r hr (Nat.dvd_trans hrc ⟨s, by rw [hc', Nat.mul_comm]⟩)
      have h5 := Nat.le_of_dvd (by omega) hrc
      have h6 : 1024 * 1024 ≤ s * c' := Nat.mul_le_mul h3 (by omega)
      have h7 : c ≤ D := by rw [hc]; exact Nat.div_le_self _ _
      omega
  rcases h.2 with h1 | h1
  · exfalso
    have e1 := Nat.eq_of_beq_eq_true h1
    have e2 : c = 1 := hc.trans e1
    have := hs.1
    omega
  · rw [tst2_eq] at h1
    have e2 : Nat.div D (Nat.gcd D (Nat.pow g 20)) = s := hc.symm.trans hcs
    rw [e2] at h1
    exact h1

/-- If every prime of D is tested, whoever kills all bases is a multiple of D. -/
theorem full_of2 {p D k : Nat} (hp : Prime p) (hD : p - 1 = k * D) (h : ∀ s, Prime s → s ∣ D → tst p ((p - 1) / s) = true) :
    ∀ m, (∀ b ∈ baseL, b ^ m % p = 1) → D ∣ m := by
  intro m hm
  have h2 := hp.1
  by_cases hd : D ∣ m
  · exact hd
  exfalso
  have hone : 1 % p = 1 := Nat.mod_eq_of_lt (by omega)
  have hbase : ∀ b ∈ baseL, ¬ p ∣ b := by
    intro b hb hpb
    have h3 := hm b hb
    have hm0 : m ≠ 0 := by rintro rfl; exact hd (Nat.dvd_zero _)
    obtain ⟨k, rfl⟩ : ∃ k, m = k + 1 := ⟨m - 1, by omega⟩
    rw [Nat.pow_succ, Nat.mul_mod, Nat.mod_eq_zero_of_dvd hpb, Nat.mul_zero, Nat.zero_mod] at h3
    omega
  obtain ⟨c, hc⟩ : Nat.gcd m D ∣ D := Nat.gcd_dvd_right _ _
  have hD0 : D ≠ 0 := by rintro rfl; rw [Nat.mul_zero] at hD; omega
  have hc2 : 2 ≤ c := by
    rcases Nat.lt_or_ge c 2 with h3 | h3
    · exfalso
      have hc1 : c = 1 := by
        rcases c with _ | c
        · rw [Nat.mul_zero] at hc; omega
        · omega
      rw [hc1, Nat.mul_one] at hc
      exact hd (hc ▸ Nat.gcd_dvd_left m D)
    · exact h3
  obtain ⟨r, hr, hrc, _⟩ := least_factor c hc2
  obtain ⟨c', rfl⟩ := hrc
  have hrp : r ∣ D := ⟨Nat.gcd m D * c', by rw [Nat.mul_left_comm]; exact hc⟩
  obtain ⟨b, hb, hne⟩ := tst_spec (h r hr hrp)
  have e : (p - 1) / r = k * Nat.gcd m D * c' := by
    have : p - 1 = r * (k * Nat.gcd m D * c') := by
      rw [hD]
      conv => lhs; rw [hc]
      simp only [Nat.mul_assoc, Nat.mul_left_comm, Nat.mul_comm]
    exact Nat.div_eq_of_eq_mul_right (by have := hr.1; omega) this
  have hg1 : b ^ Nat.gcd m (p - 1) % p = 1 % p := pow_gcd m (p - 1) (by rw [hm b hb, hone]) (by rw [fermat hp (hbase b hb), hone])
  have hdv : Nat.gcd m (p - 1) ∣ k * Nat.gcd m D := by
    rw [← Nat.gcd_mul_left, hD]
    exact Nat.dvd_gcd (Nat.dvd_trans (Nat.gcd_dvd_left _ _) (Nat.dvd_mul_left _ _)) (Nat.gcd_dvd_right _ _)
  obtain ⟨u, hu⟩ := hdv
  have := pow_mul_one (k := u * c') hg1
  rw [← Nat.mul_assoc, ← hu, ← e, hone] at this
  exact hne this

/-- The product of the remainders' predecessors' sums: 0, if the two remainders are 1 (or 0) somewhere. -/
def sProd (W V D q n : Nat) : Nat := Nat.rec (motive := fun _ => Nat) 1 (fun i acc => Nat.mul acc (Nat.add (Nat.sub (Nat.mod W (Nat.add q (Nat.mul i D))) 1) (Nat.sub (Nat.mod V (Nat.add q (Nat.mul i D))) 1))) n

theorem sProd_spec {W V D q : Nat} : ∀ {n : Nat}, sProd W V D q n ≠ 0 → ∀ i, i < n → ¬ (W % (q + i * D) = 1 ∧ V % (q + i * D) = 1)
  | 0, _, i, hi => absurd hi (Nat.not_lt_zero _)
  | n + 1, h, i, hi => by
    have h' : sProd W V D q n * ((W % (q + n * D) - 1) + (V % (q + n * D) - 1)) ≠ 0 := h
    rcases Nat.lt_succ_iff_lt_or_eq.1 hi with h1 | rfl
    · exact sProd_spec (fun h0 => h' (by rw [h0, Nat.zero_mul])) i h1
    · rintro ⟨a, b⟩
      rw [a, b] at h'
      exact h' rfl

/-- No prime q = 1 + s D, s from k + 1 on, up to B / p, makes all powers to the p - 1 be 1. -/
def sLoop (B Z p D k : Nat) : Bool :=
  force (Nat.succ (Nat.mul (Nat.succ k) D)) fun q => force (Nat.succ (Nat.div (Nat.div B p) D)) fun n =>
    (Nat.blt p 300000 && force (Nat.pow 2 (Nat.sub p 1)) fun W => force (Nat.pow 3 (Nat.sub p 1)) fun V => !(Nat.beq (sProd W V D q n) 0)) ||
    allFrom (fun i => tst2 (Nat.add q (Nat.mul i D)) (Nat.sub p 1) || !(Nat.beq (Nat.gcd (Nat.add q (Nat.mul i D)) Z) 1)) 0 n

theorem sLoop_spec {B Z p D k : Nat} (h : sLoop B Z p D k = true) (i : Nat) (hi : i < B / p / D + 1) (hall : ∀ b ∈ baseL, b ^ (p - 1) % ((k + 1) * D + 1 + i * D) = 1) :
    Nat.gcd ((k + 1) * D + 1 + i * D) Z ≠ 1 := by
  unfold sLoop at h
  rw [force_eq, force_eq, Bool.or_eq_true, Bool.and_eq_true, force_eq, force_eq] at h
  rcases h with ⟨_, h⟩ | h
  · exfalso
    have h1 : sProd (Nat.pow 2 (Nat.sub p 1)) (Nat.pow 3 (Nat.sub p 1)) D (Nat.succ (Nat.mul (Nat.succ k) D)) (Nat.succ (Nat.div (Nat.div B p) D)) ≠ 0 := by
      intro h0
      rw [h0] at h
      simp at h
    exact sProd_spec h1 i hi ⟨hall 2 (by decide), hall 3 (by decide)⟩
  · have h1 := allFrom_spec h i hi
    rw [Nat.zero_add, Bool.or_eq_true] at h1
    rcases h1 with h2 | h2
    · exfalso
      rw [tst2_eq] at h2
      obtain ⟨b, hb, hne⟩ := tst_spec h2
      exact hne (hall b hb)
    · intro e
      have e' : Nat.gcd (Nat.add (Nat.succ (Nat.mul (Nat.succ k) D)) (Nat.mul i D)) Z = 1 := e
      rw [e'] at h2
      simp at h2

def okD (T : FT) (P B Z p D k : Nat) : Bool := facT T P p D && sLoop B Z p D k

/-- What is asked of p, where p - 1 or its half is killed. -/
def okQ (T : FT) (P B Z p : Nat) : Bool :=
  !(Nat.beq (Nat.gcd p P) 1) || (wief2 p && (force (Nat.sub p 1) (fun D => okD T P B Z p D 1) || force (Nat.div (Nat.sub p 1) 2) (fun D => okD T P B Z p D 2)))
/-- What is asked of p, where p - 1 is killed. -/
def okR (T : FT) (P B Z p : Nat) : Bool := !(Nat.beq (Nat.gcd p P) 1) || (wief2 p && force (Nat.sub p 1) (fun D => okD T P B Z p D 1))

/-- p, and a greater prime q: their product fails. -/
def TwoFail (B p : Nat) : Prop := ∀ q, Prime q → p < q → p * q ≤ B → (∀ b ∈ baseL, b ^ (p * q - 1) % (p * q) = 1) → False

theorem base_small {p : Nat} (hp : 38 ≤ p) : ∀ b ∈ baseL, ¬ p ∣ b := fun b hb hd => by
  have hsmall : ∀ b ∈ baseL, b < 38 ∧ 2 ≤ b := by decide
  have := Nat.le_of_dvd (by have := hsmall b hb; omega) hd
  have := hsmall b hb
  omega

/-- What n = p q says, if it passes Fermat's test. -/
theorem two_pow {p q : Nat} (hp : Prime p) (hq : Prime q) (hp38 : 38 ≤ p) (hpq : p < q) (h : ∀ b ∈ baseL, b ^ (p * q - 1) % (p * q) = 1) :
    (∀ b ∈ baseL, b ^ (q - 1) % p = 1) ∧ (∀ b ∈ baseL, b ^ (p - 1) % q = 1) := by
  have hp2 := hp.1
  have hq2 := hq.1
  have hn2 : 2 ≤ p * q := Nat.le_trans hp2 (Nat.le_mul_of_pos_right _ (by omega))
  have key : ∀ x y : Nat, Prime y → 2 ≤ x → 38 ≤ y → (∀ b ∈ baseL, b ^ (y * x - 1) % (y * x) = 1) → 2 ≤ y * x → ∀ b ∈ baseL, b ^ (x - 1) % y = 1 := by
    intro x y hy hx hy38 hf hxy b hb
    have h1y : 1 % y = 1 := Nat.mod_eq_of_lt (by omega)
    have h1 := mod_of_dvd (Nat.dvd_mul_right y x) (show b ^ (y * x - 1) % (y * x) = 1 % (y * x) by rw [hf b hb, Nat.mod_eq_of_lt (by omega)])
    have e : y * x - 1 = (y - 1) * x + (x - 1) := by
      rw [Nat.sub_mul, Nat.one_mul]
      have : x * 1 ≤ x * y := Nat.mul_le_mul_left _ (by omega)
      rw [Nat.mul_comm y x]
      omega
    have h2 : b ^ ((y - 1) * x) % y = 1 % y := pow_mul_one (by rw [fermat hy (base_small hy38 b hb), h1y])
    rw [e, Nat.pow_add, Nat.mul_mod, h2, ← Nat.mul_mod, Nat.one_mul, h1y] at h1
    exact h1
  refine ⟨key q p hp hq2 hp38 h hn2, key p q hq hp2 (by omega) ?_ (by rw [Nat.mul_comm]; exact hn2)⟩
  rw [Nat.mul_comm q p]
  exact h

theorem okD_two {T : FT} {P B Z p D k : Nat} (hok : T.ok = true) (hP : P = Nt.prodL T.leaves) (hpr : ∀ r ∈ T.leaves, Prime r) (hall : ∀ s, Prime s → s ∈ T.leaves ∨ 1024 ≤ s)
    (hp : Prime p) (hp38 : 512 ≤ p) (hpl : p < 1048577) (hk : 1 ≤ k) (hD : p - 1 = k * D) (hZ : Z = prodT 8 0) (h : okD T P B Z p D k = true) :
    (∀ m, (∀ b ∈ baseL, b ^ m % p = 1) → D ∣ m) ∧ TwoFail B p := by
  unfold okD at h
  rw [Bool.and_eq_true] at h
  have hD0 : 0 < D := by
    rcases D with _ | D
    · rw [Nat.mul_zero] at hD; have := hp.1; omega
    · omega
  have hDl : D < 1048576 := by
    have : 1 * D ≤ k * D := Nat.mul_le_mul_right _ hk
    omega
  have hfull := full_of2 hp hD (facT_spec hok hP hpr hall hD0 hDl h.1)
  refine ⟨hfull, ?_⟩
  intro q hq hpq hle hf
  obtain ⟨h1, h2⟩ := two_pow hp hq (by omega) hpq hf
  obtain ⟨s, hs⟩ := hfull (q - 1) h1
  have hsk : k < s := by
    rcases Nat.lt_or_ge k s with h3 | h3
    · exact h3
    · exfalso
      have : D * s ≤ D * k := Nat.mul_le_mul_left _ h3
      rw [Nat.mul_comm D k] at this
      omega
  have hq1 : q = (k + 1) * D + 1 + (s - (k + 1)) * D := by
    have : (k + 1) * D + (s - (k + 1)) * D = s * D := by rw [← Nat.add_mul]; congr 1; omega
    rw [Nat.mul_comm D s] at hs
    omega
  have hsB : s ≤ B / p / D := by
    rw [Nat.le_div_iff_mul_le hD0, Nat.le_div_iff_mul_le (by omega), Nat.mul_comm s D, ← hs]
    have : (q - 1) * p ≤ q * p := Nat.mul_le_mul_right _ (by omega)
    rw [Nat.mul_comm q p] at this
    omega
  refine sLoop_spec h.2 (s - (k + 1)) (by omega) (by rw [← hq1]; exact h2) ?_
  rw [← hq1]
  refine prime_coprime hq fun hd => ?_
  rw [hZ] at hd
  have := prodT_dvd hq 8 0 hd
  omega

theorem okQ_two {T : FT} {P B Z p : Nat} (hok : T.ok = true) (hP : P = Nt.prodL T.leaves) (hpr : ∀ r ∈ T.leaves, Prime r) (hall : ∀ s, Prime s → s ∈ T.leaves ∨ 1024 ≤ s)
    (hp : Prime p) (hp38 : 512 ≤ p) (hpl : p < 1048577) (hM : ¬ p ∣ P) (hZ : Z = prodT 8 0) (h : okQ T P B Z p = true) : wief p = true ∧ TwoFail B p := by
  unfold okQ at h
  rw [prime_coprime hp hM, Nat.beq_refl, Bool.not_true, Bool.false_or, Bool.and_eq_true, wief2_eq, Bool.or_eq_true, force_eq, force_eq] at h
  refine ⟨h.1, ?_⟩
  rcases h.2 with h1 | h1
  · exact (okD_two hok hP hpr hall hp hp38 hpl (Nat.le_refl 1) (by rw [Nat.one_mul]; rfl) hZ h1).2
  · refine (okD_two hok hP hpr hall hp hp38 hpl (by omega : 1 ≤ 2) ?_ hZ h1).2
    have h2 : p % 2 ≠ 0 := by
      intro h0
      rcases hp.2 2 (Nat.dvd_of_mod_eq_zero h0) with h3 | h3 <;> omega
    show p - 1 = 2 * ((p - 1) / 2)
    omega

theorem okR_two {T : FT} {P B Z p : Nat} (hok : T.ok = true) (hP : P = Nt.prodL T.leaves) (hpr : ∀ r ∈ T.leaves, Prime r) (hall : ∀ s, Prime s → s ∈ T.leaves ∨ 1024 ≤ s)
    (hp : Prime p) (hp38 : 512 ≤ p) (hpl : p < 1048577) (hM : ¬ p ∣ P) (hZ : Z = prodT 8 0) (h : okR T P B Z p = true) : Full p ∧ wief p = true ∧ TwoFail B p := by
  unfold okR at h
  rw [prime_coprime hp hM, Nat.beq_refl, Bool.not_true, Bool.false_or, Bool.and_eq_true, wief2_eq, force_eq] at h
  have := okD_two hok hP hpr hall hp hp38 hpl (Nat.le_refl 1) (by rw [Nat.one_mul]; rfl) hZ h.2
  exact ⟨this.1, h.1, this.2⟩
end Go.Proofs.YtpphfeinmmmckaaDoor
