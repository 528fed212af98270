/-
  Plain arithmetic under the long division of two words by one: no program in sight.
-/
namespace Go.Proofs.YtpphfeinmmmckaaDoor.Knuth

theorem lt_of_ge {U D Y q : Nat} (hU : U < Y) (hD : D < 4294967296) (hq : 4294967296 ≤ q) : (U * 4294967296 + D) / Y < q := by
  refine Nat.lt_of_lt_of_le ((Nat.div_lt_iff_lt_mul (by omega)).2 ?_) hq
  have : (U + 1) * 4294967296 ≤ Y * 4294967296 := Nat.mul_le_mul_right _ hU
  rw [Nat.mul_comm 4294967296 Y]
  omega

theorem split {q Y1 Y0 : Nat} : q * (Y1 * 4294967296 + Y0) = q * Y1 * 4294967296 + q * Y0 := by
  rw [Nat.mul_add, Nat.mul_assoc]

theorem lt_of_gt {U D Y Y1 Y0 q r : Nat} (hY : Y = Y1 * 4294967296 + Y0) (hY0 : 0 < Y) (hq : q * Y1 + r = U) (h : 4294967296 * r + D < q * Y0) : (U * 4294967296 + D) / Y < q := by
  refine (Nat.div_lt_iff_lt_mul hY0).2 ?_
  rw [hY, split, ← hq, Nat.add_mul]
  omega

theorem le_of_le {U D Y Y1 Y0 q r : Nat} (hY : Y = Y1 * 4294967296 + Y0) (hY0 : 0 < Y) (hq : q * Y1 + r = U) (h : q * Y0 ≤ 4294967296 * r + D) : q ≤ (U * 4294967296 + D) / Y := by
  refine (Nat.le_div_iff_mul_le hY0).2 ?_
  rw [hY, split, ← hq, Nat.add_mul]
  omega

theorem le_of_big {U D Y Y1 Y0 q r : Nat} (hY : Y = Y1 * 4294967296 + Y0) (hY0 : 0 < Y) (hb : Y0 < 4294967296) (hq : q * Y1 + r = U) (hr : 4294967296 ≤ r) (hq1 : q ≤ 4294967296) : q ≤ (U * 4294967296 + D) / Y := by
  refine le_of_le hY hY0 hq ?_
  have : q * Y0 ≤ 4294967296 * Y0 := Nat.mul_le_mul_right _ hq1
  omega

theorem start_le {U Y Y1 Y0 : Nat} (hY : Y = Y1 * 4294967296 + Y0) (hb : Y0 < 4294967296) (hn : 2147483648 ≤ Y1) (hU : U < Y) : U / Y1 ≤ 4294967297 := by
  have : U / Y1 < 4294967298 := by
    refine (Nat.div_lt_iff_lt_mul (by omega)).2 ?_
    omega
  omega

theorem start_ge {U D Y Y1 Y0 : Nat} (hY : Y = Y1 * 4294967296 + Y0) (hn : 0 < Y1) (hD : D < 4294967296) : (U * 4294967296 + D) / Y ≤ U / Y1 := by
  have hY0 : 0 < Y := by omega
  have h1 : (U * 4294967296 + D) / Y ≤ (U * 4294967296 + D) / (Y1 * 4294967296) := Nat.div_le_div_left (by omega) (by omega)
  rw [Nat.mul_comm Y1, ← Nat.div_div_eq_div_mul] at h1
  have h2 : (U * 4294967296 + D) / 4294967296 = U := by omega
  rw [h2] at h1
  exact h1

theorem core {N y s q R : Nat} (hy : 0 < y) (e4 : N * 2 ^ s = q * y * 2 ^ s + R) (hR : R < y * 2 ^ s) : q = N / y ∧ R / 2 ^ s = N % y := by
  have h2 : 0 < 2 ^ s := Nat.two_pow_pos s
  have hd : 2 ^ s ∣ R := by
    have h5 : 2 ^ s ∣ (q * y) * 2 ^ s + R := e4 ▸ Nat.dvd_mul_left _ _
    exact (Nat.dvd_add_right (Nat.dvd_mul_left _ _)).1 h5
  obtain ⟨r, rfl⟩ := hd
  have e6 : N = q * y + r := by
    have : N * 2 ^ s = (q * y + r) * 2 ^ s := by rw [e4, Nat.add_mul, Nat.mul_comm r]
    exact Nat.eq_of_mul_eq_mul_right h2 this
  have hr : r < y := by
    rw [Nat.mul_comm y] at hR
    exact Nat.lt_of_mul_lt_mul_left hR
  rw [Nat.mul_div_cancel_left _ h2]
  subst e6
  constructor
  · rw [Nat.add_comm, Nat.add_mul_div_right _ _ hy, Nat.div_eq_of_lt hr]; omega
  · rw [Nat.add_comm, Nat.add_mul_mod_self_right, Nat.mod_eq_of_lt hr]

/-- The whole division out of its two steps. -/
theorem join {N y s U L D1 D0 Y q1 V q0 R : Nat} (hy : 0 < y) (hY : Y = y * 2 ^ s)
    (hN : N * 2 ^ s = U * 18446744073709551616 + L) (hL : L = D1 * 4294967296 + D0)
    (e1 : Y * q1 + V = U * 4294967296 + D1) (e2 : Y * q0 + R = V * 4294967296 + D0) (hR : R < Y) :
    q1 * 4294967296 + q0 = N / y ∧ R / 2 ^ s = N % y := by
  refine core hy ?_ (hY ▸ hR)
  rw [Nat.mul_assoc, ← hY, Nat.add_mul, Nat.mul_right_comm, Nat.mul_comm q1 Y, Nat.mul_comm q0 Y, hN, hL]
  generalize Y * q1 = a at *
  generalize Y * q0 = b at *
  omega

/-- The shifted upper word: the two pieces do not overlap. -/
theorem upper {hi lo y s : Nat} (hs : s < 64) (hlo : lo < 18446744073709551616) (hlt : hi < y) (hY : y * 2 ^ s < 18446744073709551616) :
    (hi * 2 ^ s % 18446744073709551616 ||| lo / 2 ^ (64 - s)) < y * 2 ^ s ∧
    (hi * 18446744073709551616 + lo) * 2 ^ s = (hi * 2 ^ s % 18446744073709551616 ||| lo / 2 ^ (64 - s)) * 18446744073709551616 + lo * 2 ^ s % 18446744073709551616 := by
  have h2 : 0 < 2 ^ s := Nat.two_pow_pos s
  have hp : (2 : Nat) ^ (64 - s) * 2 ^ s = 18446744073709551616 := by rw [← Nat.pow_add, Nat.sub_add_cancel (by omega)]
  have h1 : (hi + 1) * 2 ^ s ≤ y * 2 ^ s := Nat.mul_le_mul_right _ hlt
  rw [Nat.add_mul, Nat.one_mul] at h1
  rw [Nat.mod_eq_of_lt (show hi * 2 ^ s < 18446744073709551616 by omega)]
  have h3 : lo / 2 ^ (64 - s) < 2 ^ s := by
    refine (Nat.div_lt_iff_lt_mul (Nat.two_pow_pos _)).2 ?_
    rw [Nat.mul_comm, hp]; exact hlo
  have h4 : (hi * 2 ^ s ||| lo / 2 ^ (64 - s)) = hi * 2 ^ s + lo / 2 ^ (64 - s) := by
    have := Nat.shiftLeft_add_eq_or_of_lt h3 hi
    rw [Nat.shiftLeft_eq] at this
    exact this.symm
  rw [h4]
  refine ⟨by omega, ?_⟩
  have h5 : lo * 2 ^ s / 18446744073709551616 = lo / 2 ^ (64 - s) := by
    rw [← hp, Nat.mul_div_mul_right _ _ h2]
  have h6 := Nat.div_add_mod (lo * 2 ^ s) 18446744073709551616
  rw [h5] at h6
  rw [Nat.add_mul, Nat.mul_right_comm, Nat.add_mul]
  generalize lo / 2 ^ (64 - s) = a at *
  generalize hi * 2 ^ s = b at *
  generalize lo * 2 ^ s = c at *
  omega
end Go.Proofs.YtpphfeinmmmckaaDoor.Knuth
