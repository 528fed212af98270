/-
  Plain: no number that passes the strong tests is divided by the square of a prime, up to 2^63.
-/
import Derived.Test.YtpphfeinmmmckaaDoorThr
import Derived.Test.YtpphfeinmmmckaaDoorRight
namespace Go.Proofs.YtpphfeinmmmckaaDoor
open Nt

theorem lift_pow (x p k : Nat) : ∀ j, ∃ v, (x + p * k) ^ (j + 1) = x ^ (j + 1) + (j + 1) * (p * k * x ^ j) + p * p * v
  | 0 => ⟨0, by simp⟩
  | j + 1 => by
    obtain ⟨v, hv⟩ := lift_pow x p k j
    refine ⟨(j + 1) * (k * k * x ^ j) + v * (x + p * k), ?_⟩
    rw [Nat.pow_succ (x + p * k), hv]
    have e1 : x ^ (j + 1 + 1) = x ^ (j + 1) * x := Nat.pow_succ _ _
    have e2 : x ^ (j + 1) = x ^ j * x := Nat.pow_succ _ _
    rw [e1, Nat.mul_add (x ^ (j + 1) + (j + 1) * (p * k * x ^ j) + p * p * v) x (p * k)]
    simp only [Nat.add_mul, Nat.mul_add, e2, Nat.one_mul]
    simp only [Nat.mul_comm, Nat.mul_left_comm, Nat.mul_assoc]
    omega

theorem lift_p {x y p : Nat} (hp : 1 ≤ p) (hxy : x ≤ y) (h : x % p = y % p) : x ^ p % (p * p) = y ^ p % (p * p) := by
  obtain ⟨k, hk⟩ := mod_eq_dvd h.symm hxy
  obtain ⟨j, rfl⟩ : ∃ j, p = j + 1 := ⟨p - 1, by omega⟩
  obtain ⟨v, hv⟩ := lift_pow x (j + 1) k j
  have ey : y = x + (j + 1) * k := by omega
  have e : x ^ (j + 1) + (j + 1) * ((j + 1) * k * x ^ j) + (j + 1) * (j + 1) * v = x ^ (j + 1) + (j + 1) * (j + 1) * (k * x ^ j + v) := by
    have e1 : (j + 1) * ((j + 1) * k * x ^ j) = (j + 1) * (j + 1) * (k * x ^ j) := by ac_rfl
    rw [e1, Nat.mul_add ((j + 1) * (j + 1)), Nat.add_assoc]
  rw [ey, hv, e, Nat.add_mul_mod_self_left]

/-- Modulo the square of p there are no more roots. -/
theorem few_sq {p r : Nat} (hp : Prime p) (hr : 1 ≤ r) (hd : r ∣ p - 1) : FewRoots (p * p) r := by
  intro R hn h
  have hp2 := hp.1
  have h1p : 1 % p = 1 := Nat.mod_eq_of_lt (by omega)
  have hpp : 2 ≤ p * p := Nat.le_trans hp2 (Nat.le_mul_of_pos_left _ (by omega))
  have h1pp : 1 % (p * p) = 1 := Nat.mod_eq_of_lt (by omega)
  obtain ⟨k, hk⟩ := hd
  have hself : ∀ x ∈ R, x ^ p % (p * p) = x := by
    intro x hx
    obtain ⟨h1, h2⟩ := h x hx
    have e : p = r * k + 1 := by omega
    have h3 : x ^ (r * k) % (p * p) = 1 % (p * p) := pow_mul_one (by rw [h2, h1pp])
    have h4 : x ^ (r * k + 1) % (p * p) = x := by
      rw [Nat.pow_succ, Nat.mul_mod, h3, ← Nat.mul_mod, Nat.one_mul, Nat.mod_eq_of_lt h1]
    rw [← e] at h4
    exact h4
  have hinj : ∀ x ∈ R, ∀ y ∈ R, x % p = y % p → x = y := by
    intro x hx y hy he
    rcases Nat.le_total x y with h1 | h1
    · have := lift_p (by omega) h1 he
      rwa [hself x hx, hself y hy] at this
    · have := lift_p (by omega) h1 he.symm
      rw [hself x hx, hself y hy] at this
      exact this.symm
  have := few_prime hp hr (R.map fun x => x % p) ?_ ?_
  · rwa [List.length_map] at this
  · rw [List.nodup_iff_pairwise_ne] at hn ⊢
    rw [List.pairwise_map]
    exact hn.imp_of_mem fun {x y} hx hy hne he => hne (hinj x hx y hy he)
  · intro a ha
    obtain ⟨x, hx, rfl⟩ := List.mem_map.1 ha
    refine ⟨Nat.mod_lt _ (by omega), ?_⟩
    show (x % p) ^ r % p = 1
    rw [← Nat.pow_mod]
    have h2 := (h x hx).2
    have := mod_of_dvd (Nat.dvd_mul_right p p) (show x ^ r % (p * p) = 1 % (p * p) by rw [h2, h1pp])
    rw [this, h1p]

/-- At a square. -/
theorem kills_sq {n s d p : Nat} (H : Pass n s d) (hp : Prime p) (hp3 : 38 ≤ p) (hd : p * p ∣ n) : Kills (Nat.gcd (p - 1) (n - 1)) (p * p) := by
  intro b hb
  have hpp : 2 ≤ p * p := Nat.le_trans hp.1 (Nat.le_mul_of_pos_left _ (by omega))
  have h1pp : 1 % (p * p) = 1 := Nat.mod_eq_of_lt (by omega)
  have hn := H.two
  have h1 := mod_of_dvd hd (show b ^ (n - 1) % n = 1 % n by rw [H.fer b hb, Nat.mod_eq_of_lt (by omega)])
  have h2 := pow_sq hp (base_not hp3 b hb)
  have h3 := pow_gcd ((p - 1) * p) (n - 1) h2 h1
  have hpn : p ∣ n := Nat.dvd_trans (Nat.dvd_mul_right p p) hd
  have h4 : Nat.gcd ((p - 1) * p) (n - 1) ∣ Nat.gcd (p - 1) (n - 1) := by
    have hcop : Nat.Coprime (Nat.gcd ((p - 1) * p) (n - 1)) p := by
      rw [Nat.Coprime, Nat.gcd_comm]
      refine prime_coprime hp fun hdd => ?_
      have h5 : p ∣ n - 1 := Nat.dvd_trans hdd (Nat.gcd_dvd_right _ _)
      have h6 : p ∣ n - (n - 1) := Nat.dvd_sub hpn h5
      rw [show n - (n - 1) = 1 by omega] at h6
      have := Nat.le_of_dvd (by omega) h6
      omega
    exact Nat.dvd_gcd (hcop.dvd_of_dvd_mul_right (Nat.gcd_dvd_left _ _)) (Nat.gcd_dvd_right _ _)
  obtain ⟨k, hk⟩ := h4
  have h5 := pow_mul_one (k := k) h3
  rw [← hk, h1pp] at h5
  exact h5

/-- A closed count: more than 2^c roots for p from 2^e on. -/
noncomputable def sqOk (e c : Nat) : Bool := Nat.ble 1 e && Nat.ble (Nat.pow 2 c) (Nat.mul 2 (cnt (fun p b => Nat.sub b (wt p)) 140 bigB (Nat.mul 2 e) (Nat.mul 2 e)))

theorem sq_le {e c n s d p : Nat} (h : sqOk e c = true) (H : Pass n s d) (hp : Prime p) (hp3 : 38 ≤ p) (hd : p * p ∣ n) (he : 2 ^ e < p) : 2 ^ c ≤ Nat.gcd (p - 1) (n - 1) := by
  unfold sqOk at h
  rw [Bool.and_eq_true] at h
  have h1 : 1 ≤ e := Nat.le_of_ble_eq_true h.1
  have h2 : 2 ^ c ≤ 2 * cnt (fun p b => b - wt p) 140 bigB (2 * e) (2 * e) := Nat.le_of_ble_eq_true h.2
  refine Nat.le_trans h2 ?_
  rw [← fracs_length _ 140 bigB]
  obtain ⟨r1, r2⟩ := rank_even H hp (by omega)
  have hpp : 2 ^ (2 * e) < p * p := by
    have e1 : 2 ^ (2 * e) = 2 ^ e * 2 ^ e := by rw [← Nat.pow_add]; congr 1; omega
    rw [e1]
    exact Nat.mul_lt_mul'' he he
  refine fracs_le (M := 2 ^ (2 * e - 1)) (room_half (l := bigB ++ [2]) (by decide)) (by decide) (by decide) ?_ r2 r1 (by omega) ?_ ?_ (kills_sq H hp hp3 hd) (few_sq hp r2 (Nat.gcd_dvd_left _ _))
  · exact Nat.le_trans hp.1 (Nat.le_mul_of_pos_left _ (by omega))
  · intro x y hx hy
    have hx' : x * x ≤ 2 ^ (2 * e - 1) := hx
    have hy' : y * y ≤ 2 ^ (2 * e - 1) := hy
    rcases Nat.le_total x y with h3 | h3
    · exact Nat.le_trans (Nat.mul_le_mul_right _ h3) hy'
    · exact Nat.le_trans (Nat.mul_le_mul_left _ h3) hx'
  · have e1 : 2 ^ (2 * e) = 2 ^ (2 * e - 1) * 2 := by rw [← Nat.pow_succ]; congr 1; omega
    omega

set_option maxRecDepth 100000
theorem sq16 : sqOk 16 22 = true := by decide +kernel
theorem sq22 : sqOk 22 26 = true := by decide +kernel
theorem sq26 : sqOk 26 29 = true := by decide +kernel
theorem sq29 : sqOk 29 31 = true := by decide +kernel
theorem sq31 : sqOk 31 32 = true := by decide +kernel

/-- No square divides. -/
theorem no_square {n s d p : Nat} (H : Pass n s d) (hp : Prime p) (hp3 : 41 ≤ p) (hn : n < 9223372036854775808) : ¬ p * p ∣ n := by
  intro hd
  have hle := Nat.le_of_dvd (by have := H.two; omega) hd
  have hg : Nat.gcd (p - 1) (n - 1) ≤ p - 1 := Nat.le_of_dvd (by omega) (Nat.gcd_dvd_left _ _)
  have hbig : p < 4294967296 := by
    rcases Nat.lt_or_ge p 4294967296 with h | h
    · exact h
    · have := Nat.mul_le_mul h h; omega
  rcases Nat.lt_or_ge p 65537 with h | h
  · have hw := (checks.full p hp (by omega) h).2.1
    have hk := kills_sq H hp (by omega) hd
    have hpp : 2 ≤ p * p := Nat.le_trans hp.1 (Nat.le_mul_of_pos_left _ (by omega))
    have h1pp : 1 % (p * p) = 1 := Nat.mod_eq_of_lt (by omega)
    obtain ⟨k, hk2⟩ : Nat.gcd (p - 1) (n - 1) ∣ p - 1 := Nat.gcd_dvd_left _ _
    have key : ∀ b ∈ baseL, b ^ (p - 1) % (p * p) = 1 := fun b hb => by
      have := pow_mul_one (k := k) (show b ^ Nat.gcd (p - 1) (n - 1) % (p * p) = 1 % (p * p) by rw [hk b hb, h1pp])
      rw [← hk2, h1pp] at this
      exact this
    rcases wief_spec hw with h1 | h1
    · exact h1 (key 2 (by decide))
    · exact h1 (key 3 (by decide))
  have k16 := sq_le sq16 H hp (by omega) hd (by omega)
  have p22 : 2 ^ 22 < p := by omega
  have k22 := sq_le sq22 H hp (by omega) hd p22
  have p26 : 2 ^ 26 < p := by omega
  have k26 := sq_le sq26 H hp (by omega) hd p26
  have p29 : 2 ^ 29 < p := by omega
  have k29 := sq_le sq29 H hp (by omega) hd p29
  have p31 : 2 ^ 31 < p := by omega
  have k31 := sq_le sq31 H hp (by omega) hd p31
  omega
end Go.Proofs.YtpphfeinmmmckaaDoor
