/-
  Plain: prime.Is is right up to 2^32 + 16: it says yes just to the primes; by the closed checks.
-/
import Derived.Test.YtpphfeinmmmckaaDoorChkB
import Derived.Test.YtpphfeinmmmckaaDoorChkC
namespace Go.Proofs.YtpphfeinmmmckaaDoor
open Nt

theorem okP_all (p : Nat) (h1 : 41 ≤ p) (h2 : p < 65537) : okP (prodT 15 0) p = true := by
  have k0 := ok0; have k1 := ok1; have k2 := ok2; have k3 := ok3; have k4 := ok4; have k5 := ok5; have k6 := ok6; have k7 := ok7
  rw [force_eq] at k0 k1 k2 k3 k4 k5 k6 k7
  have key : ∀ a, allFrom (okP (prodT 15 0)) a 8187 = true → a ≤ p → p < a + 8187 → okP (prodT 15 0) p = true := by
    intro a ha h3 h4
    have := allFrom_spec ha (p - a) (by omega)
    rwa [show a + (p - a) = p by omega] at this
  rcases Nat.lt_or_ge p 8228 with h | h
  · exact key _ k0 h1 h
  rcases Nat.lt_or_ge p 16415 with h' | h'
  · exact key _ k1 h h'
  rcases Nat.lt_or_ge p 24602 with h | h
  · exact key _ k2 h' h
  rcases Nat.lt_or_ge p 32789 with h' | h'
  · exact key _ k3 h h'
  rcases Nat.lt_or_ge p 40976 with h | h
  · exact key _ k4 h' h
  rcases Nat.lt_or_ge p 49163 with h' | h'
  · exact key _ k5 h h'
  rcases Nat.lt_or_ge p 57350 with h | h
  · exact key _ k6 h' h
  exact key _ k7 h (by omega)

theorem base_not_dvd {p : Nat} (hp : Prime p) (h : 41 ≤ p) : ¬ p ∣ baseProd := by
  intro hd
  have e : baseProd = prodL baseL := by decide
  rw [e] at hd
  refine prod_coprime hp baseL (fun b hb hd => ?_) hd
  have hs : ∀ b ∈ baseL, b < 38 ∧ 2 ≤ b := by decide
  have := Nat.le_of_dvd (by have := hs b hb; omega) hd
  have := hs b hb
  omega

theorem smallL_prime : ∀ r ∈ smallL, Prime r := by
  intro r hr
  have key : ∀ r ∈ smallL, 2 ≤ r ∧ r < 257 ∧ ∀ d : Fin 17, 2 ≤ d.val → d.val * d.val ≤ r → r % d.val ≠ 0 := by decide +kernel
  obtain ⟨h1, h2, h3⟩ := key r hr
  refine (prime_iff r).2 ⟨h1, fun d h4 h5 => ?_⟩
  rcases Nat.lt_or_ge d 17 with h | h
  · exact h3 ⟨d, h⟩ h4 h5
  · have := Nat.mul_le_mul h h; omega
theorem smallL_sorted : smallL.Pairwise (· ≤ ·) := by decide +kernel
theorem smallL_lt : ∀ r ∈ smallL, r < 257 := by decide +kernel
theorem smallL_all (s : Nat) (hs : Prime s) : s ∈ smallL ∨ 257 ≤ s := by
  rcases Nat.lt_or_ge s 257 with h | h
  · left
    have key : ∀ s : Fin 257, 2 ≤ s.val → (∀ d : Fin 17, 2 ≤ d.val → d.val * d.val ≤ s.val → s.val % d.val ≠ 0) → s.val ∈ smallL := by decide +kernel
    exact key ⟨s, h⟩ hs.1 fun d h1 h2 => ((prime_iff s).1 hs).2 d.val h1 h2
  · exact .inr h

theorem checks : Checks (fun _ => false) 4294967312 65537 where
  root := by decide
  full := by
    intro p hp h1 h2
    have h := okP_all p h1 h2
    unfold okP at h
    rw [prime_no_skip hp (by omega) (base_not_dvd hp h1), Bool.false_or, Bool.and_eq_true, Bool.and_eq_true] at h
    refine ⟨full_of hp ?_, h.1.2, ?_⟩
    · have hp1 : Nat.sub p 1 = p - 1 := rfl
      rw [hp1] at h
      exact facL_spec (C := 257) (by decide) smallL (p - 1) smallL_prime smallL_sorted smallL_lt (by omega) (by omega) (fun s hs _ => smallL_all s hs) h.1.1
    · intro q hq hb
      have hd := smallG_spec h.2 hq hb
      have := prodT_dvd hq 15 0 hd
      omega
  pairs := by
    intro p q hp hq h1 hpq hle hsig
    have hqb : q < 10240 := by
      rcases Nat.lt_or_ge q 10240 with h | h
      · exact h
      · have h3 := Nat.mul_le_mul h h
        have h4 : 41 * (q * q) ≤ p * (q * q) := Nat.mul_le_mul_right _ h1
        omega
    have hpm := covers_spec cov p h1 (by omega) (prime_no_skip hp (by omega) (base_not_dvd hp h1))
    have hqm := covers_spec cov q (by omega) (by omega) (prime_no_skip hq (by omega) (base_not_dvd hq (by omega)))
    exact pairs_spec srt prs p _ q _ hpm hqm hpq hle hsig

theorem base_is_prime (k : Nat) (hk : k < 12) : Prime (baseAt k) := ⟨(baseAt_lo k hk).1, base_prime k hk⟩

/-- prime.Is is right up to a bound with checks. -/
theorem mrIs_of_checks {F : Nat → Bool} {B R : Nat} (C : Checks F B R) (hF : ∀ n, F n = true → ∃ b ∈ baseL, b ^ (n - 1) % n ≠ 1) (n : Nat) (hn : n ≤ B) (h63 : n < 9223372036854775808) : mrIs n = true ↔ Prime n := by
  constructor
  · intro h
    by_cases hp : Prime n
    · exact hp
    · exfalso
      unfold mrIs at h
      by_cases h2 : n < 2
      · rw [if_pos (.inl h2)] at h; cases h
      · rw [if_neg (by omega)] at h
        cases hf : (List.range 12).find? (fun k => n % baseAt k == 0) with
        | some k =>
          obtain ⟨a, b, _⟩ := find_some hf
          rw [hf] at h
          have h3 : n = baseAt k := by simpa using h
          exact hp (h3 ▸ base_is_prime k a)
        | none =>
          rw [hf] at h
          have hnn := List.find?_eq_none.1 hf
          have hno : ∀ j, j < 12 → n % baseAt j ≠ 0 := fun j hj => by have := hnn j (List.mem_range.2 hj); simpa using this
          have h0 : n % 2 ≠ 0 := hno 0 (by omega)
          obtain ⟨t1, _, _, t4, t5⟩ := ctz_even (n - 1) (by omega) (by omega) (by omega)
          have := comp_fails C hF (by omega) hn hp hno t1 t4 t5
          have h' : strongs n ((n - 1) / 2 ^ Lib.ctz 64 (n - 1)) (Lib.ctz 64 (n - 1)) = true := h
          rw [this] at h'
          cases h'
  · intro hp
    exact mrIs_prime hp h63

theorem mrIs_right (n : Nat) (hn : n ≤ 4294967312) : mrIs n = true ↔ Prime n :=
  mrIs_of_checks checks (fun n h => by cases h) n hn (by omega)
end Go.Proofs.YtpphfeinmmmckaaDoor
