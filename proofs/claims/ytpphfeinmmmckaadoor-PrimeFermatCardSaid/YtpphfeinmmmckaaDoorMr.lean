/-
  Plain: what prime.Is computes: trial by twelve bases, then the strong test by each.
-/
import Derived.Lib.TrailingZeros
namespace Go.Proofs.YtpphfeinmmmckaaDoor

def bases : List Nat := [2, 3, 5, 7, 11, 13, 17, 19, 23, 29, 31, 37]

/-- The base of number k. -/
def baseAt (k : Nat) : Nat := bases.getD k 0

theorem baseAt_lo (k : Nat) (h : k < 12) : 2 ≤ baseAt k ∧ baseAt k ≤ 37 := by
  have : ∀ k : Fin 12, 2 ≤ baseAt k.val ∧ baseAt k.val ≤ 37 := by decide
  exact this ⟨k, h⟩

/-- x, squared again and again, comes to n - 1 within k squarings (x itself not asked). -/
def squares (n : Nat) : Nat → Nat → Bool
  | 0, _ => false
  | k + 1, x => if x * x % n = n - 1 then true else squares n k (x * x % n)

/-- The strong test of n, n - 1 = odd * 2 ^ twos, by the base b. -/
def strong (n odd twos b : Nat) : Bool :=
  if b ^ odd % n = 1 ∨ b ^ odd % n = n - 1 then true else squares n (twos - 1) (b ^ odd % n)

/-- All strong tests from base number k on. -/
def strongs (n odd twos : Nat) : Bool := (List.range 12).all fun k => strong n odd twos (baseAt k)

/-- What prime.Is answers. -/
def mrIs (n : Nat) : Bool :=
  if n < 2 ∨ 9223372036854775808 ≤ n then false
  else match (List.range 12).find? (fun k => n % baseAt k == 0) with
    | some k => n == baseAt k
    | none => strongs n ((n - 1) / 2 ^ Lib.ctz 64 (n - 1)) (Lib.ctz 64 (n - 1))

theorem find_some {p : Nat → Bool} : ∀ {m k : Nat}, (List.range m).find? p = some k → k < m ∧ p k = true ∧ ∀ j, j < k → p j = false := by
  intro m
  induction m with
  | zero => intro k h; simp at h
  | succ m ih =>
    intro k h
    rw [List.range_succ, List.find?_append] at h
    cases hf : (List.range m).find? p with
    | some k' =>
      rw [hf] at h
      obtain rfl : k' = k := by simpa using h
      obtain ⟨a, b, c⟩ := ih hf
      exact ⟨by omega, b, c⟩
    | none =>
      rw [hf] at h
      have hn := List.find?_eq_none.1 hf
      by_cases hp : p m = true
      · obtain rfl : m = k := by simpa [hp] using h
        refine ⟨by omega, hp, fun j hj => ?_⟩
        have := hn j (List.mem_range.2 hj)
        simpa using this
      · simp [hp] at h

theorem ctz_even (x : Nat) (h0 : 0 < x) (h2 : x % 2 = 0) (h : x < 9223372036854775808) : 1 ≤ Lib.ctz 64 x ∧ Lib.ctz 64 x ≤ 63 ∧ x / 2 ^ Lib.ctz 64 x < 18446744073709551616 ∧ x = 2 ^ Lib.ctz 64 x * (x / 2 ^ Lib.ctz 64 x) ∧ x / 2 ^ Lib.ctz 64 x % 2 = 1 := by
  have e : Lib.ctz 64 x = Lib.ctzFrom 64 x := by unfold Lib.ctz; rw [if_neg (by omega)]
  rw [e]
  obtain ⟨m, hm, hlt⟩ := Lib.ctzFrom_spec 64 x h0 (by omega)
  generalize Lib.ctzFrom 64 x = c at *
  have hd : x / 2 ^ c = 2 * m + 1 := by rw [hm, Nat.mul_div_cancel_left _ (Nat.two_pow_pos c)]
  rw [hd]
  refine ⟨?_, by omega, ?_, hm, by omega⟩
  · rcases c with _ | c
    · rw [Nat.pow_zero, Nat.one_mul] at hm; omega
    · omega
  · rw [← hd]; exact Nat.lt_of_le_of_lt (Nat.div_le_self _ _) (by omega)

end Go.Proofs.YtpphfeinmmmckaaDoor
