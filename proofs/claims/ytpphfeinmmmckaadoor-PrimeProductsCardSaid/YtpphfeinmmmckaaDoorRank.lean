/-
  Plain: the exponents that a prime of a number may have, one by one; and the strong test as the kernel reckons it.
-/
import Derived.Test.YtpphfeinmmmckaaDoorRow
import Derived.Test.YtpphfeinmmmckaaDoorRight
namespace Go.Proofs.YtpphfeinmmmckaaDoor
open Nt

/-- The greatest least exponent that the table tells. -/
noncomputable def cOf (q : Nat) (l : List ThrE) : Nat :=
  List.rec (motive := fun _ => Nat) 1 (fun e _ ih => Bool.rec (motive := fun _ => Nat) ih (Nat.add e.c (Nat.sub ih e.c)) (Nat.ble (Nat.succ e.W) q)) l

theorem cOf_le {n s d q : Nat} (H : Pass n s d) (hp : Prime q) (hp3 : 38 ≤ q) (hd : q ∣ n) : ∀ {l : List ThrE}, (∀ e ∈ l, ∃ X, thrOk e.W X e.c = true) → cOf q l ≤ Nat.gcd (q - 1) (n - 1) ∧ 1 ≤ cOf q l
  | [], _ => ⟨(rank_even H hp (by omega)).2, Nat.le_refl _⟩
  | e :: l, h => by
    have ih := cOf_le H hp hp3 hd fun f hf => h f (List.mem_cons_of_mem _ hf)
    have es : cOf q (e :: l) = Bool.rec (motive := fun _ => Nat) (cOf q l) (Nat.add e.c (Nat.sub (cOf q l) e.c)) (Nat.ble (Nat.succ e.W) q) := rfl
    rw [es]
    cases hb : Nat.ble (Nat.succ e.W) q with
    | false => exact ih
    | true =>
      have h1 : e.W < q := Nat.le_of_ble_eq_true hb
      obtain ⟨X, hX⟩ := h e (by simp)
      have h2 := thr_le hX H hp hp3 hd h1
      show e.c + (cOf q l - e.c) ≤ _ ∧ 1 ≤ e.c + (cOf q l - e.c)
      omega

noncomputable def imax (q : Nat) : Nat := bif Nat.blt q 65537 then 1 else Nat.div (Nat.sub q 1) (cOf q thrD)

theorem imax_le {n s d q : Nat} (H : Pass n s d) (hp : Prime q) (hp3 : 41 ≤ q) (hd : q ∣ n) : (q - 1) / Nat.gcd (q - 1) (n - 1) ≤ imax q := by
  have hr := (rank_even H hp (by omega)).2
  unfold imax
  cases hb : Nat.blt q 65537 with
  | true =>
    rw [cond_true]
    have h1 : q < 65537 := Nat.le_of_ble_eq_true hb
    have hf := (checks.full q hp hp3 h1).1
    have h2 := hf (Nat.gcd (q - 1) (n - 1)) (kills_prime H hp (by omega) hd)
    have h3 := Nat.le_of_dvd hr h2
    have h4 := Nat.div_le_div_left h3 (show 0 < q - 1 by omega) (a := q - 1)
    rw [Nat.div_self (by omega)] at h4
    exact h4
  | false =>
    rw [cond_false]
    obtain ⟨h1, h2⟩ := cOf_le H hp (by omega) hd (fun e he => thrL_ok e (thrD_mem e he))
    exact Nat.div_le_div_left h1 h2

/-- One exponent. -/
noncomputable def rk (q : Nat) (f : Nat → Bool) (I : Nat) : Bool :=
  Bool.rec (motive := fun _ => Bool) true (Bool.rec (motive := fun _ => Bool) (f (Nat.div (Nat.sub q 1) I)) true (tst3 q (Nat.div (Nat.sub q 1) I))) (Nat.beq (Nat.mod (Nat.sub q 1) I) 0)

/-- All exponents that q may have are handed to f. -/
noncomputable def ranks (q : Nat) (f : Nat → Bool) : Bool :=
  Nat.rec (motive := fun _ => Bool) true (fun i ih => Bool.rec (motive := fun _ => Bool) false ih (rk q f (Nat.succ i))) (imax q)

theorem rk_all {q : Nat} {f : Nat → Bool} : ∀ {m : Nat}, Nat.rec (motive := fun _ => Bool) true (fun i ih => Bool.rec (motive := fun _ => Bool) false ih (rk q f (Nat.succ i))) m = true → ∀ i, i < m → rk q f (i + 1) = true
  | 0, _, i, hi => absurd hi (Nat.not_lt_zero _)
  | m + 1, h, i, hi => by
    have h' : Bool.rec (motive := fun _ => Bool) false (Nat.rec (motive := fun _ => Bool) true (fun i ih => Bool.rec (motive := fun _ => Bool) false ih (rk q f (Nat.succ i))) m) (rk q f (Nat.succ m)) = true := h
    cases hb : rk q f (Nat.succ m) with
    | false => rw [hb] at h'; cases h'
    | true =>
      rw [hb] at h'
      rcases Nat.lt_succ_iff_lt_or_eq.1 hi with h1 | rfl
      · exact rk_all h' i h1
      · exact hb

theorem tst3_false {p e : Nat} (h : Kills e p) : tst3 p e = false := by
  rcases hb : tst3 p e with _ | _
  · rfl
  · exact absurd h (tst3_not hb)

theorem ranks_spec {n s d q : Nat} {f : Nat → Bool} (h : ranks q f = true) (H : Pass n s d) (hp : Prime q) (hp3 : 41 ≤ q) (hd : q ∣ n) : f (Nat.gcd (q - 1) (n - 1)) = true := by
  obtain ⟨r, hr⟩ : ∃ r, r = Nat.gcd (q - 1) (n - 1) := ⟨_, rfl⟩
  have hk := kills_prime H hp (by omega) hd
  have hi := imax_le H hp hp3 hd
  have hr1 := (rank_even H hp (by omega)).2
  rw [← hr] at hk hi hr1 ⊢
  obtain ⟨I, hI⟩ : r ∣ q - 1 := hr ▸ Nat.gcd_dvd_left _ _
  have hI1 : (q - 1) / r = I := by rw [hI]; exact Nat.mul_div_cancel_left _ hr1
  have hI0 : 1 ≤ I := by
    rcases I with _ | I
    · rw [Nat.mul_zero] at hI; omega
    · omega
  rw [hI1] at hi
  have h1 := rk_all h (I - 1) (by omega)
  rw [show I - 1 + 1 = I by omega] at h1
  unfold rk at h1
  have e1 : Nat.sub q 1 = r * I := hI
  have e2 : Nat.mod (Nat.sub q 1) I = 0 := by rw [e1]; exact Nat.mul_mod_left _ _
  have e3 : Nat.div (Nat.sub q 1) I = r := by rw [e1]; exact Nat.mul_div_cancel _ hI0
  rw [e2, e3, tst3_false hk] at h1
  exact h1

/-- The power of a great exponent. -/
def pow6 (b e n : Nat) : Nat :=
  powS 256 (powS 256 (powS 256 (powS 256 (powS 256 (powS 256 (Nat.mod (Nat.pow b (Nat.div e 281474976710656)) n) b (Nat.div e 1099511627776) n) b (Nat.div e 4294967296) n) b (Nat.div e 16777216) n) b (Nat.div e 65536) n) b (Nat.div e 256) n) b e n
theorem pow6_eq (b e n : Nat) : pow6 b e n = b ^ e % n := by
  have s1 : ∀ x, x = b ^ (e / 281474976710656) % n → powS 256 x b (e / 1099511627776) n = b ^ (e / 1099511627776) % n := fun x hx => powS_eq (by rw [hx, Nat.div_div_eq_div_mul])
  have s2 : ∀ x, x = b ^ (e / 1099511627776) % n → powS 256 x b (e / 4294967296) n = b ^ (e / 4294967296) % n := fun x hx => powS_eq (by rw [hx, Nat.div_div_eq_div_mul])
  have s3 : ∀ x, x = b ^ (e / 4294967296) % n → powS 256 x b (e / 16777216) n = b ^ (e / 16777216) % n := fun x hx => powS_eq (by rw [hx, Nat.div_div_eq_div_mul])
  have s4 : ∀ x, x = b ^ (e / 16777216) % n → powS 256 x b (e / 65536) n = b ^ (e / 65536) % n := fun x hx => powS_eq (by rw [hx, Nat.div_div_eq_div_mul])
  have s5 : ∀ x, x = b ^ (e / 65536) % n → powS 256 x b (e / 256) n = b ^ (e / 256) % n := fun x hx => powS_eq (by rw [hx, Nat.div_div_eq_div_mul])
  have s6 : ∀ x, x = b ^ (e / 256) % n → powS 256 x b e n = b ^ e % n := fun x hx => powS_eq hx
  exact s6 _ (s5 _ (s4 _ (s3 _ (s2 _ (s1 _ rfl)))))

/-- The strong test by b fails: from the exponent e down. -/
noncomputable def sfb (n b : Nat) (f : Nat) : Nat → Bool :=
  Nat.rec (motive := fun _ => Nat → Bool) (fun _ => false)
    (fun _ ih e => Bool.rec (motive := fun _ => Bool) false
      (Bool.rec (motive := fun _ => Bool) (Bool.rec (motive := fun _ => Bool) true false (Nat.beq (pow6 b (Nat.div e 2) n) (Nat.sub n 1))) (force (Nat.div e 2) ih) (Nat.beq (pow6 b (Nat.div e 2) n) 1))
      (Nat.beq (Nat.mod e 2) 0)) f

theorem sfb_pass {n s d b : Nat} (H : Pass n s d) (hb : b ∈ baseL) : ∀ (f j : Nat), j ≤ s → b ^ (d * 2 ^ j) % n = 1 → sfb n b f (d * 2 ^ j) = false
  | 0, _, _, _ => rfl
  | f + 1, 0, _, _ => by
    have ho : Nat.mod (d * 2 ^ 0) 2 = 1 := by rw [Nat.pow_zero, Nat.mul_one]; exact H.odd
    show Bool.rec (motive := fun _ => Bool) false _ (Nat.beq (Nat.mod (d * 2 ^ 0) 2) 0) = false
    rw [ho]
    rfl
  | f + 1, j + 1, hj, h1 => by
    have hn := H.two
    have he : Nat.mod (d * 2 ^ (j + 1)) 2 = 0 := by
      rw [Nat.pow_succ, ← Nat.mul_assoc]; exact Nat.mul_mod_left _ _
    have hh : Nat.div (d * 2 ^ (j + 1)) 2 = d * 2 ^ j := by
      rw [Nat.pow_succ, ← Nat.mul_assoc]; exact Nat.mul_div_cancel _ (by omega)
    show Bool.rec (motive := fun _ => Bool) false
      (Bool.rec (motive := fun _ => Bool) (Bool.rec (motive := fun _ => Bool) true false (Nat.beq (pow6 b (Nat.div (d * 2 ^ (j + 1)) 2) n) (Nat.sub n 1))) (force (Nat.div (d * 2 ^ (j + 1)) 2) (sfb n b f)) (Nat.beq (pow6 b (Nat.div (d * 2 ^ (j + 1)) 2) n) 1))
      (Nat.beq (Nat.mod (d * 2 ^ (j + 1)) 2) 0) = false
    rw [he, hh, pow6_eq, force_eq]
    have hy : b ^ (d * 2 ^ j) % n = 1 ∨ b ^ (d * 2 ^ j) % n = n - 1 := by
      have hone : 1 % n = 1 := Nat.mod_eq_of_lt (by omega)
      rcases H.test b hb with h2 | ⟨i, hi, h2⟩
      · left
        rw [pow_mul_one (by rw [h2, hone]), hone]
      · rcases Nat.lt_or_ge i j with h3 | h3
        · left
          have h4 := minus_one_sq hn h2
          rw [← Nat.pow_two, ← Nat.pow_mul, Nat.mul_assoc, ← Nat.pow_succ] at h4
          have e1 : d * 2 ^ j = d * 2 ^ (i + 1) * 2 ^ (j - (i + 1)) := by
            rw [Nat.mul_assoc, ← Nat.pow_add]; congr 2; omega
          rw [e1, pow_mul_one (by rw [h4, hone]), hone]
        · rcases Nat.lt_or_ge j i with h5 | h5
          · exfalso
            have e1 : d * 2 ^ i = d * 2 ^ (j + 1) * 2 ^ (i - (j + 1)) := by
              rw [Nat.mul_assoc, ← Nat.pow_add]; congr 2; omega
            rw [e1, pow_mul_one (by rw [h1, hone]), hone] at h2
            have h0 : n = 2 := by omega
            have := pass_odd H
            omega
          · obtain rfl : i = j := by omega
            exact .inr h2
    rcases hy with h2 | h2
    · rw [h2]
      exact sfb_pass H hb f j (by omega) h2
    · rw [h2]
      have : Nat.beq (n - 1) 1 = false := by
        rcases hbb : Nat.beq (n - 1) 1 with _ | _
        · rfl
        · have h3 := Nat.eq_of_beq_eq_true hbb
          have := pass_odd H
          omega
      rw [this]
      have : Nat.beq (n - 1) (Nat.sub n 1) = true := Nat.beq_refl _
      rw [this]
      rfl

/-- Some strong test fails. -/
noncomputable def sfail (n : Nat) : Bool := baseL.any fun b => sfb n b 64 (Nat.sub n 1)

theorem sfail_not {n s d : Nat} (h : sfail n = true) (H : Pass n s d) : False := by
  unfold sfail at h
  rw [List.any_eq_true] at h
  obtain ⟨b, hb, h1⟩ := h
  have e : Nat.sub n 1 = d * 2 ^ s := by rw [Nat.mul_comm]; exact H.split
  rw [e, sfb_pass H hb 64 s (Nat.le_refl _) (by rw [Nat.mul_comm, ← H.split]; exact H.fer b hb)] at h1
  cases h1
end Go.Proofs.YtpphfeinmmmckaaDoor
