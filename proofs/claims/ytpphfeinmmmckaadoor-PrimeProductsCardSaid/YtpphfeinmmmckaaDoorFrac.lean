/-
  Plain: how many fractions of small primes there are; they are all roots of x^r - 1 modulo a prime (or its square), if the small primes are: so there are at most r of them.
-/
import Derived.Test.YtpphfeinmmmckaaDoorRoot
import Derived.Test.YtpphfeinmmmckaaDoorCompMain
namespace Go.Proofs.YtpphfeinmmmckaaDoor
open Nt

/-- Fractions with the factor p above the line, f times at most; g: the fractions without p. dv p A: what p leaves of the room A; 0: no room. -/
def ups (dv : Nat → Nat → Nat) (p : Nat) (g : Nat → List (Nat × Nat)) : Nat → Nat → List (Nat × Nat)
  | 0, _ => []
  | f + 1, A => if dv p A = 0 then [] else (g (dv p A) ++ ups dv p g f (dv p A)).map fun e => (p * e.1, e.2)
def downs (dv : Nat → Nat → Nat) (p : Nat) (g : Nat → List (Nat × Nat)) : Nat → Nat → List (Nat × Nat)
  | 0, _ => []
  | f + 1, B => if dv p B = 0 then [] else (g (dv p B) ++ downs dv p g f (dv p B)).map fun e => (e.1, p * e.2)

/-- Fractions of the primes of a list, with room A above and room B below. -/
def fracs (dv : Nat → Nat → Nat) (f : Nat) : List Nat → Nat → Nat → List (Nat × Nat)
  | [], _, _ => [(1, 1)]
  | p :: l, A, B => fracs dv f l A B ++ (ups dv p (fun A' => fracs dv f l A' B) f A ++ downs dv p (fun B' => fracs dv f l A B') f B)

/-- What is asked of a measure of room: le x A: x has room in A. -/
structure Room (dv : Nat → Nat → Nat) (le : Nat → Nat → Prop) (l : List Nat) : Prop where
  one : ∀ A, 1 ≤ A → le 1 A
  mul : ∀ p ∈ l, ∀ A x, dv p A ≠ 0 → le x (dv p A) → le (p * x) A

theorem Room.tail {dv : Nat → Nat → Nat} {le : Nat → Nat → Prop} {p : Nat} {l : List Nat} (h : Room dv le (p :: l)) : Room dv le l := ⟨h.one, fun q hq => h.mul q (List.mem_cons_of_mem _ hq)⟩

/-- Made of the primes of l alone. -/
def Made (l : List Nat) (x : Nat) : Prop := 0 < x ∧ ∀ q, Prime q → q ∣ x → q ∈ l

theorem made_one (l : List Nat) : Made l 1 := ⟨by omega, fun q hq hd => by have := Nat.le_of_dvd (by omega) hd; have := hq.1; omega⟩
theorem made_mul {l : List Nat} {x y : Nat} (hx : Made l x) (hy : Made l y) : Made l (x * y) :=
  ⟨Nat.mul_pos hx.1 hy.1, fun q hq hd => by rcases euclid hq hd with h | h; exact hx.2 q hq h; exact hy.2 q hq h⟩
theorem made_cons {l : List Nat} {p x : Nat} (hx : Made l x) : Made (p :: l) x := ⟨hx.1, fun q hq hd => List.mem_cons_of_mem _ (hx.2 q hq hd)⟩
theorem made_prime {l : List Nat} {p : Nat} (hp : Prime p) : Made (p :: l) p := ⟨by have := hp.1; omega, fun q hq hd => by
  rcases hp.2 q hd with h | h
  · have := hq.1; omega
  · rw [h]; simp⟩

def Diff (x y : Nat × Nat) : Prop := x.1 * y.2 ≠ y.1 * x.2

/-- What is said of a list of fractions. -/
structure Good (le : Nat → Nat → Prop) (l : List Nat) (A B : Nat) (F : List (Nat × Nat)) : Prop where
  mem : ∀ e ∈ F, Made l e.1 ∧ Made l e.2 ∧ le e.1 A ∧ le e.2 B
  diff : F.Pairwise Diff

theorem ups_good {dv : Nat → Nat → Nat} {le : Nat → Nat → Prop} {p B : Nat} {l : List Nat} {g : Nat → List (Nat × Nat)} (hp : Prime p) (hpl : p ∉ l) (hm : ∀ A x, dv p A ≠ 0 → le x (dv p A) → le (p * x) A) (hg : ∀ A, 1 ≤ A → Good le l A B (g A)) :
    ∀ (f A : Nat), Good le (p :: l) A B (ups dv p g f A) ∧ ∀ e ∈ ups dv p g f A, p ∣ e.1 ∧ Made l e.2
  | 0, A => ⟨⟨fun e he => by simp [ups] at he, by simp [ups]⟩, fun e he => by simp [ups] at he⟩
  | f + 1, A => by
    unfold ups
    by_cases h : dv p A = 0
    · rw [if_pos h]; exact ⟨⟨fun e he => by simp at he, by simp⟩, fun e he => by simp at he⟩
    · rw [if_neg h]
      obtain ⟨ih1, ih2⟩ := ups_good hp hpl hm hg f (dv p A)
      have hga := hg (dv p A) (Nat.pos_of_ne_zero h)
      have hmem : ∀ e ∈ g (dv p A) ++ ups dv p g f (dv p A), Made (p :: l) e.1 ∧ Made l e.2 ∧ le e.1 (dv p A) ∧ le e.2 B := by
        intro e he
        rcases List.mem_append.1 he with h1 | h1
        · have := hga.mem e h1; exact ⟨made_cons this.1, this.2.1, this.2.2⟩
        · have := ih1.mem e h1; exact ⟨this.1, (ih2 e h1).2, this.2.2⟩
      have hpw : (g (dv p A) ++ ups dv p g f (dv p A)).Pairwise Diff := by
        rw [List.pairwise_append]
        refine ⟨hga.diff, ih1.diff, fun x hx y hy heq => ?_⟩
        have h1 := hga.mem x hx
        have h2 := ih2 y hy
        have hd : p ∣ x.1 * y.2 := by
          have heq' : x.1 * y.2 = y.1 * x.2 := heq
          rw [heq']; exact Nat.dvd_trans h2.1 (Nat.dvd_mul_right _ _)
        exact hpl ((made_mul h1.1 h2.2).2 p hp hd)
      refine ⟨⟨?_, ?_⟩, ?_⟩
      · intro e he
        obtain ⟨x, hx, rfl⟩ := List.mem_map.1 he
        have h1 := hmem x hx
        exact ⟨made_mul (made_prime hp) h1.1, made_cons h1.2.1, hm A _ h h1.2.2.1, h1.2.2.2⟩
      · rw [List.pairwise_map]
        refine hpw.imp fun {x y} hxy heq => hxy ?_
        have heq' : p * x.1 * y.2 = p * y.1 * x.2 := heq
        rw [Nat.mul_assoc, Nat.mul_assoc] at heq'
        exact Nat.eq_of_mul_eq_mul_left (by have := hp.1; omega) heq'
      · intro e he
        obtain ⟨x, hx, rfl⟩ := List.mem_map.1 he
        exact ⟨Nat.dvd_mul_right _ _, (hmem x hx).2.1⟩

theorem downs_good {dv : Nat → Nat → Nat} {le : Nat → Nat → Prop} {p A : Nat} {l : List Nat} {g : Nat → List (Nat × Nat)} (hp : Prime p) (hpl : p ∉ l) (hm : ∀ A x, dv p A ≠ 0 → le x (dv p A) → le (p * x) A) (hg : ∀ B, 1 ≤ B → Good le l A B (g B)) :
    ∀ (f B : Nat), Good le (p :: l) A B (downs dv p g f B) ∧ ∀ e ∈ downs dv p g f B, p ∣ e.2 ∧ Made l e.1
  | 0, B => ⟨⟨fun e he => by simp [downs] at he, by simp [downs]⟩, fun e he => by simp [downs] at he⟩
  | f + 1, B => by
    unfold downs
    by_cases h : dv p B = 0
    · rw [if_pos h]; exact ⟨⟨fun e he => by simp at he, by simp⟩, fun e he => by simp at he⟩
    · rw [if_neg h]
      obtain ⟨ih1, ih2⟩ := downs_good hp hpl hm hg f (dv p B)
      have hga := hg (dv p B) (Nat.pos_of_ne_zero h)
      have hmem : ∀ e ∈ g (dv p B) ++ downs dv p g f (dv p B), Made l e.1 ∧ Made (p :: l) e.2 ∧ le e.1 A ∧ le e.2 (dv p B) := by
        intro e he
        rcases List.mem_append.1 he with h1 | h1
        · have := hga.mem e h1; exact ⟨this.1, made_cons this.2.1, this.2.2⟩
        · have := ih1.mem e h1; exact ⟨(ih2 e h1).2, this.2.1, this.2.2⟩
      have hpw : (g (dv p B) ++ downs dv p g f (dv p B)).Pairwise Diff := by
        rw [List.pairwise_append]
        refine ⟨hga.diff, ih1.diff, fun x hx y hy heq => ?_⟩
        have h1 := hga.mem x hx
        have h2 := ih2 y hy
        have hd : p ∣ y.1 * x.2 := by
          have heq' : x.1 * y.2 = y.1 * x.2 := heq
          rw [← heq']; exact Nat.dvd_trans h2.1 (Nat.dvd_mul_left _ _)
        exact hpl ((made_mul h2.2 h1.2.1).2 p hp hd)
      refine ⟨⟨?_, ?_⟩, ?_⟩
      · intro e he
        obtain ⟨x, hx, rfl⟩ := List.mem_map.1 he
        have h1 := hmem x hx
        exact ⟨made_cons h1.1, made_mul (made_prime hp) h1.2.1, h1.2.2.1, hm B _ h h1.2.2.2⟩
      · rw [List.pairwise_map]
        refine hpw.imp fun {x y} hxy heq => hxy ?_
        have heq' : x.1 * (p * y.2) = y.1 * (p * x.2) := heq
        rw [Nat.mul_left_comm, Nat.mul_left_comm y.1] at heq'
        exact Nat.eq_of_mul_eq_mul_left (by have := hp.1; omega) heq'
      · intro e he
        obtain ⟨x, hx, rfl⟩ := List.mem_map.1 he
        exact ⟨Nat.dvd_mul_right _ _, (hmem x hx).1⟩

theorem fracs_good {dv : Nat → Nat → Nat} {le : Nat → Nat → Prop} (f : Nat) : ∀ (l : List Nat), Room dv le l → (∀ p ∈ l, Prime p) → l.Nodup → ∀ A B, 1 ≤ A → 1 ≤ B → Good le l A B (fracs dv f l A B)
  | [], H, _, _, A, B, hA, hB => ⟨fun e he => by
      rw [fracs, List.mem_singleton] at he
      subst he
      exact ⟨made_one _, made_one _, H.one A hA, H.one B hB⟩, by simp [fracs]⟩
  | p :: l, H, hpr, hn, A, B, hA, hB => by
    have hp := hpr p (by simp)
    rw [List.nodup_cons] at hn
    have ih := fracs_good f l H.tail (fun q hq => hpr q (by simp [hq])) hn.2
    obtain ⟨u1, u2⟩ := ups_good (g := fun A' => fracs dv f l A' B) hp hn.1 (H.mul p (by simp)) (fun A' h => ih A' B h hB) f A
    obtain ⟨d1, d2⟩ := downs_good (g := fun B' => fracs dv f l A B') hp hn.1 (H.mul p (by simp)) (fun B' h => ih A B' hA h) f B
    have h0 := ih A B hA hB
    refine ⟨?_, ?_⟩
    · intro e he
      rw [fracs] at he
      rcases List.mem_append.1 he with h | h
      · have := h0.mem e h; exact ⟨made_cons this.1, made_cons this.2.1, this.2.2⟩
      · rcases List.mem_append.1 h with h | h
        · exact u1.mem e h
        · exact d1.mem e h
    · rw [fracs, List.pairwise_append, List.pairwise_append]
      refine ⟨h0.diff, ⟨u1.diff, d1.diff, fun x hx y hy heq => ?_⟩, fun x hx y hy heq => ?_⟩
      · have heq' : x.1 * y.2 = y.1 * x.2 := heq
        have hd : p ∣ y.1 * x.2 := heq' ▸ Nat.dvd_trans (u2 x hx).1 (Nat.dvd_mul_right _ _)
        exact hn.1 ((made_mul (d2 y hy).2 (u2 x hx).2).2 p hp hd)
      · have heq' : x.1 * y.2 = y.1 * x.2 := heq
        have hx' := h0.mem x hx
        rcases List.mem_append.1 hy with h | h
        · have hd : p ∣ x.1 * y.2 := heq' ▸ Nat.dvd_trans (u2 y h).1 (Nat.dvd_mul_right _ _)
          exact hn.1 ((made_mul hx'.1 (u2 y h).2).2 p hp hd)
        · have hd : p ∣ y.1 * x.2 := heq' ▸ Nat.dvd_trans (d2 y h).1 (Nat.dvd_mul_left _ _)
          exact hn.1 ((made_mul (d2 y h).2 hx'.2.1).2 p hp hd)

/-- All powers of what is made of the bases are 1. -/
theorem made_pow {N r : Nat} (h : ∀ b ∈ baseL, b ^ r % N = 1 % N) : ∀ x, Made baseL x → x ^ r % N = 1 % N := by
  intro x
  induction x using Nat.strongRecOn with
  | _ x ih =>
    intro hx
    rcases Nat.lt_or_ge x 2 with h1 | h1
    · have : x = 1 := by have := hx.1; omega
      rw [this, Nat.one_pow]
    · obtain ⟨q, hq, ⟨c, hc⟩, _⟩ := least_factor x h1
      have hqb := hx.2 q hq ⟨c, hc⟩
      have hc0 : 0 < c := by
        rcases c with _ | c
        · rw [Nat.mul_zero] at hc; omega
        · omega
      have hlt : c < x := by
        have : 2 * c ≤ q * c := Nat.mul_le_mul_right _ hq.1
        omega
      have := ih c hlt ⟨hc0, fun s hs hd => hx.2 s hs (Nat.dvd_trans hd ⟨q, by rw [hc, Nat.mul_comm]⟩)⟩
      rw [hc, Nat.mul_pow, Nat.mul_mod, h q hqb, this, ← Nat.mul_mod, Nat.one_mul]

/-- At most r roots of x^r - 1. -/
def FewRoots (N r : Nat) : Prop := ∀ R : List Nat, R.Nodup → (∀ x ∈ R, x < N ∧ x ^ r % N = 1) → R.length ≤ r

theorem few_prime {p r : Nat} (hp : Prime p) (hr : 1 ≤ r) : FewRoots p r := by
  intro R hn h
  have := roots_le hp (-1 :: List.replicate (r - 1) 0) R hn fun x hx => by
    obtain ⟨h1, h2⟩ := h x hx
    refine ⟨h1, ?_⟩
    have hx0 : 0 < x := by
      rcases Nat.eq_zero_or_pos x with h0 | h0
      · rw [h0, Nat.zero_pow (by omega), Nat.zero_mod] at h2; omega
      · exact h0
    have h4 : p ∣ x ^ r - 1 := mod_eq_dvd (by rw [h2, Nat.mod_eq_of_lt (by have := hp.1; omega)]) (Nat.pow_pos hx0)
    rw [ev, ev_zeros]
    have e1 : (-1 : Int) + (x : Int) * (x : Int) ^ (r - 1) = ((x ^ r - 1 : Nat) : Int) := by
      have h5 : 1 ≤ x ^ r := Nat.pow_pos hx0
      have h6 : (x : Int) * (x : Int) ^ (r - 1) = ((x ^ r : Nat) : Int) := by
        rw [Int.natCast_pow, Int.mul_comm, ← Int.pow_succ, show (r - 1).succ = r by omega]
      rw [h6]
      omega
    rw [e1]
    exact Int.natCast_dvd_natCast.2 h4
  simp only [List.length_cons, List.length_replicate] at this
  omega

/-- The roots that the fractions are. -/
theorem frac_roots {N r M A B : Nat} {le : Nat → Nat → Prop} (hN : 2 ≤ N) (hr : 1 ≤ r) (hre : r % 2 = 0) (hX : 2 * M < N) (hcop : ∀ x, Made baseL x → x ^ r % N = 1)
    (F : List (Nat × Nat)) (hF : Good le baseL A B F) (hsm : ∀ x ∈ F, ∀ y ∈ F, x.1 * y.2 ≤ M) : ∃ R : List Nat, R.Nodup ∧ (∀ x ∈ R, x < N ∧ x ^ r % N = 1) ∧ R.length = 2 * F.length := by
  have h1N : 1 % N = 1 := Nat.mod_eq_of_lt (by omega)
  let v : Nat × Nat → Nat := fun e => e.1 * e.2 ^ (r - 1) % N
  have hv : ∀ e ∈ F, v e < N ∧ v e ^ r % N = 1 ∧ v e * e.2 % N = e.1 % N := by
    intro e he
    have hm := hF.mem e he
    have h2 := hcop e.2 hm.2.1
    refine ⟨Nat.mod_lt _ (by omega), ?_, ?_⟩
    · show (e.1 * e.2 ^ (r - 1) % N) ^ r % N = 1
      rw [← Nat.pow_mod, Nat.mul_pow, Nat.mul_mod, hcop e.1 hm.1, ← Nat.pow_mul, Nat.mul_comm (r - 1) r, Nat.one_mul, Nat.mod_mod]
      have := pow_mul_one (k := r - 1) (show e.2 ^ r % N = 1 % N by rw [h2, h1N])
      rw [this, h1N]
    · show e.1 * e.2 ^ (r - 1) % N * e.2 % N = e.1 % N
      rw [Nat.mod_mul_mod, Nat.mul_assoc, ← Nat.pow_succ, show (r - 1).succ = r by omega, Nat.mul_mod, h2, Nat.mul_one, Nat.mod_mod]
  have hv0 : ∀ e ∈ F, 0 < v e := by
    intro e he
    obtain ⟨_, h2, _⟩ := hv e he
    rcases Nat.eq_zero_or_pos (v e) with h0 | h0
    · rw [h0, Nat.zero_pow (by omega), Nat.zero_mod] at h2; omega
    · exact h0
  have hne1 : ∀ x ∈ F, ∀ y ∈ F, Diff x y → v x ≠ v y := by
    intro x hx y hy hd he
    apply hd
    have h1 := (hv x hx).2.2
    have h2 := (hv y hy).2.2
    have e1 : x.1 * y.2 % N = y.1 * x.2 % N := by
      rw [Nat.mul_mod, ← h1, ← Nat.mul_mod, Nat.mul_mod y.1, ← h2, ← Nat.mul_mod, he, Nat.mul_right_comm]
    have s1 := hsm x hx y hy
    have s2 := hsm y hy x hx
    rwa [Nat.mod_eq_of_lt (by omega), Nat.mod_eq_of_lt (by omega)] at e1
  have hne2 : ∀ x ∈ F, ∀ y ∈ F, v x ≠ N - v y := by
    intro x hx y hy he
    have h1 := (hv x hx).2.2
    have h2 := (hv y hy).2.2
    have hy1 := (hv y hy).1
    have hs : (v x + v y) = N := by have := hv0 y hy; omega
    have e1 : (x.1 * y.2 + y.1 * x.2) % N = 0 := by
      rw [Nat.add_mod, Nat.mul_mod x.1, ← h1, ← Nat.mul_mod, Nat.mul_mod y.1, ← h2, ← Nat.mul_mod, ← Nat.add_mod]
      have : v x * x.2 * y.2 + v y * y.2 * x.2 = N * (x.2 * y.2) := by
        rw [← hs, Nat.add_mul, Nat.mul_assoc, Nat.mul_assoc, Nat.mul_comm y.2]
      rw [this, Nat.mul_mod_right]
    have s1 := hsm x hx y hy
    have s2 := hsm y hy x hx
    have p1 : 0 < x.1 * y.2 := Nat.mul_pos (hF.mem x hx).1.1 (hF.mem y hy).2.1.1
    rw [Nat.mod_eq_of_lt (by omega)] at e1
    omega
  refine ⟨F.map v ++ F.map fun e => N - v e, ?_, ?_, by simp; omega⟩
  · rw [List.nodup_append]
    have hp := hF.diff
    refine ⟨?_, ?_, ?_⟩
    · rw [List.nodup_iff_pairwise_ne, List.pairwise_map]
      exact hp.imp_of_mem fun {x y} hx hy hd => hne1 x hx y hy hd
    · rw [List.nodup_iff_pairwise_ne, List.pairwise_map]
      refine hp.imp_of_mem fun {x y} hx hy hd he => hne1 x hx y hy hd ?_
      have := (hv x hx).1
      have := (hv y hy).1
      have := hv0 x hx
      have := hv0 y hy
      omega
    · intro a ha b hb he
      obtain ⟨x, hx, rfl⟩ := List.mem_map.1 ha
      obtain ⟨y, hy, rfl⟩ := List.mem_map.1 hb
      exact hne2 x hx y hy he
  · intro a ha
    rcases List.mem_append.1 ha with h | h
    · obtain ⟨x, hx, rfl⟩ := List.mem_map.1 h
      exact ⟨(hv x hx).1, (hv x hx).2.1⟩
    · obtain ⟨x, hx, rfl⟩ := List.mem_map.1 h
      obtain ⟨h1, h2, _⟩ := hv x hx
      have h0 := hv0 x hx
      refine ⟨by show N - v x < N; omega, ?_⟩
      show (N - v x) ^ r % N = 1
      obtain ⟨k, rfl⟩ : ∃ k, r = 2 * k := ⟨r / 2, by omega⟩
      rw [Nat.pow_mul, Nat.pow_mod]
      have e1 : (N - v x) ^ 2 % N = v x ^ 2 % N := by
        obtain ⟨y, hy⟩ : ∃ y, N = v x + y := ⟨N - v x, by omega⟩
        have e2 : N - v x = y := by omega
        rw [e2, Nat.pow_two, Nat.pow_two]
        have e3 : y * y + N * v x = v x * v x + N * y := by
          conv => lhs; rw [hy]
          conv => rhs; rw [hy]
          rw [Nat.add_mul, Nat.add_mul]
          rw [Nat.mul_comm y (v x)]
          omega
        have e4 : (y * y + N * v x) % N = (v x * v x + N * y) % N := by rw [e3]
        rwa [Nat.add_mul_mod_self_left, Nat.add_mul_mod_self_left] at e4
      rw [e1, ← Nat.pow_mod, ← Nat.pow_mul]
      exact h2

theorem base_primes : ∀ p ∈ baseL, Prime p := fun p hp => by
  obtain ⟨k, hk, rfl⟩ := baseL_of p hp
  exact ⟨(baseAt_lo k hk).1, base_prime k hk⟩

/-- There are at most r / 2 fractions. -/
theorem fracs_le {N r M A f : Nat} {l : List Nat} {dv : Nat → Nat → Nat} {le : Nat → Nat → Prop} (HR : Room dv le l) (hl : ∀ p ∈ l, p ∈ baseL) (hln : l.Nodup) (hN : 2 ≤ N) (hr : 1 ≤ r) (hre : r % 2 = 0) (hA : 1 ≤ A)
    (hM : ∀ x y, le x A → le y A → x * y ≤ M) (hX : 2 * M < N) (hb : ∀ b ∈ baseL, b ^ r % N = 1) (hf : FewRoots N r) :
    2 * (fracs dv f l A A).length ≤ r := by
  have h1N : 1 % N = 1 := Nat.mod_eq_of_lt (by omega)
  have hG := fracs_good f l HR (fun p hp => base_primes p (hl p hp)) hln A A hA hA
  have hG' : Good le baseL A A (fracs dv f l A A) := ⟨fun e he => by
    have := hG.mem e he
    exact ⟨⟨this.1.1, fun q hq hd => hl q (this.1.2 q hq hd)⟩, ⟨this.2.1.1, fun q hq hd => hl q (this.2.1.2 q hq hd)⟩, this.2.2⟩, hG.diff⟩
  obtain ⟨R, h1, h2, h3⟩ := frac_roots hN hr hre hX (fun x hx => by rw [made_pow (fun b h => by rw [hb b h, h1N]) x hx, h1N]) _ hG' (fun x hx y hy => hM _ _ (hG.mem x hx).2.2.1 (hG.mem y hy).2.2.2)
  rw [← h3]
  exact hf R h1 h2

/-- Room by size. -/
theorem room_div (l : List Nat) : Room (fun p A => A / p) (fun x A => x ≤ A) l :=
  ⟨fun A h => h, fun p _ A x _ h => by
    have h2 : p * x ≤ p * (A / p) := Nat.mul_le_mul_left _ h
    have h3 := Nat.mul_div_le A p
    exact Nat.le_trans h2 h3⟩

/-- Room by halves of binary digits. -/
def wt (p : Nat) : Nat := bif Nat.beq p 2 then 2 else bif Nat.beq p 3 then 4 else bif Nat.beq p 5 then 5 else bif Nat.beq p 7 then 6 else bif Nat.beq p 11 then 7 else bif Nat.beq p 13 then 8 else
  bif Nat.ble p 19 then 9 else bif Nat.ble p 31 then 10 else 11
theorem wt_ok : ∀ p ∈ baseL, p * p ≤ 2 ^ wt p := by decide
theorem room_half {l : List Nat} (hl : ∀ p ∈ l, p ∈ baseL) : Room (fun p b => b - wt p) (fun x b => x * x ≤ 2 ^ (b - 1)) l :=
  ⟨fun b h => Nat.two_pow_pos _, fun p hp b x h0 h => by
    have h1 := wt_ok p (hl p hp)
    have h0' : b - wt p ≠ 0 := h0
    have e : 2 ^ (b - 1) = 2 ^ wt p * 2 ^ (b - wt p - 1) := by rw [← Nat.pow_add]; congr 1; omega
    show p * x * (p * x) ≤ 2 ^ (b - 1)
    rw [e, Nat.mul_mul_mul_comm]
    exact Nat.mul_le_mul h1 h⟩
end Go.Proofs.YtpphfeinmmmckaaDoor
