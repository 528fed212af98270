/-
  The walks of prime.times, prime.power, and of the reference's times and Power: a product and a power, modulo m; nothing is written.
-/
import Derived.Test.YtpphfeinmmmckaaDoorDiv
namespace Go.Proofs.YtpphfeinmmmckaaDoor
open Go.RowKit

theorem quiet_left {P : Program} {f : FuncId} {args : Array Value} {w : World} {n : Nat} {v : Value}
    (h : Calls P f args (w.drewN n) fun e w' => e = .returned v ∧ w.drewN n = w') : Calls P f args (w.drewN n) fun e w'' => e = .returned v ∧ ∃ m, w'' = w.drewN m :=
  h.mono fun _ _ ⟨he, hm⟩ => ⟨he, n, hm.symm⟩

theorem drewN_zero (w : World) : w = w.drewN 0 := rfl

set_option maxHeartbeats 400000 in
theorem times_core (a b m x y hi lo r q : Nat) (w : World) (hm : 1 ≤ m) (ex : (a : Int) % (m : Int) = (x : Int)) (ey : (b : Int) % (m : Int) = (y : Int))
    (c1 : Hid (∀ w, Calls Tryd.prog 38 #[.int .u64 x, .int .u64 y] w fun e w' => e = .returned (.tuple #[.int .u64 (hi : Int), .int .u64 (lo : Int)]) ∧ w = w'))
    (c2 : Hid (∀ w, Calls Tryd.prog 39 #[.int .u64 hi, .int .u64 lo, .int .u64 m] w fun e w' => e = .returned (.tuple #[.int .u64 (q : Int), .int .u64 (r : Int)]) ∧ ∃ n, w' = w.drewN n)) :
    Calls Tryd.prog 29 #[.int .u64 a, .int .u64 b, .int .u64 m] w fun e w' => e = .returned (.int .u64 (r : Int)) ∧ ∃ n, w' = w.drewN n := by
  have hm0 : (m : Int) ≠ 0 := by omega
  go_enter Tryd.func29, Tryd.ntmps29
  go_wp2_with fail
  go_quiet ((go_at_call 38; exact quiet_left (c1.out _)))
  go_wp2_with (go_at_call 39; refine (c2.out _).mono ?_; rintro e w' ⟨rfl, n, rfl⟩)
  go_ret
  exact ⟨rfl, _, rfl⟩

theorem times_any (a b m : Nat) (w : World) (hm : 0 < m) (hm2 : m < 18446744073709551616) :
    Calls Tryd.prog 29 #[.int .u64 a, .int .u64 b, .int .u64 m] w fun e w' => e = .returned (.int .u64 ((a * b % m : Nat) : Int)) ∧ ∃ n, w' = w.drewN n := by
  have hx := Nat.mod_lt a hm
  have hy := Nat.mod_lt b hm
  have hlt : a % m * (b % m) / 18446744073709551616 < m := by
    refine (Nat.div_lt_iff_lt_mul (by decide)).2 ?_
    have h1 : a % m * (b % m) ≤ m * (b % m) := Nat.mul_le_mul_right _ (by omega)
    have h2 : m * (b % m) < m * 18446744073709551616 := Nat.mul_lt_mul_of_pos_left (by omega) hm
    omega
  have h := times_core a b m (a % m) (b % m) _ _ _ _ w hm (Int.natCast_emod _ _).symm (Int.natCast_emod _ _).symm
    (Lib.hid fun w => mul64_any (a % m) (b % m) (by omega) (by omega) w)
    (Lib.hid fun w => div64_any _ _ m w hlt hm2 (Nat.mod_lt _ (by decide)))
  rw [Nat.mul_comm (a % m * (b % m) / 18446744073709551616), Nat.div_add_mod, ← Nat.mul_mod] at h
  exact h

/-- The loop of a power by squaring: what is left to do. -/
def PowRel (m T : Nat) (w : World) (t0 t1 t7 : Value) (wr : World) : Prop :=
  ∃ a n out : Nat, t0 = .int .u64 a ∧ t1 = .int .u64 n ∧ t7 = .int .u64 out ∧ n < 18446744073709551616 ∧ out < m ∧ out * a ^ n % m = T ∧ ∃ k, wr = w.drewN k

theorem pow_odd {m a n out : Nat} (h : n % 2 = 1) : (out * a % m) * (a * a % m) ^ (n / 2) % m = out * a ^ n % m := by
  have e : a ^ n = a * (a * a) ^ (n / 2) := by
    conv => lhs; rw [← Nat.div_add_mod n 2, h]
    rw [Nat.pow_succ, Nat.pow_mul, Nat.mul_comm, Nat.pow_two]
  rw [Nat.mul_mod, Nat.mod_mod, ← Nat.pow_mod, ← Nat.mul_mod, e, Nat.mul_assoc]

theorem pow_even {m a n out : Nat} (h : n % 2 = 0) : out * (a * a % m) ^ (n / 2) % m = out * a ^ n % m := by
  have e : a ^ n = (a * a) ^ (n / 2) := by
    conv => lhs; rw [← Nat.div_add_mod n 2, h]
    rw [Nat.add_zero, Nat.pow_mul, Nat.pow_two]
  rw [Nat.mul_mod, ← Nat.pow_mod, ← Nat.mul_mod, e]

theorem intOf_u64 (n : Nat) : (intOf (.int .u64 (n : Int))).toNat = n := by simp [intOf]

set_option maxRecDepth 100000 in
set_option maxHeartbeats 400000 in
theorem power_core (A N m x y : Nat) (w : World) (hm : 1 ≤ m) (hm2 : Hid (m < 18446744073709551616)) (hN : Hid (N < 18446744073709551616)) (ex : (A : Int) % (m : Int) = (x : Int)) (ey : (1 : Int) % (m : Int) = (y : Int)) (hy : Hid (y < m ∧ y * x ^ N % m = A ^ N % m)) :
    Calls Tryd.prog 28 #[.int .u64 A, .int .u64 N, .int .u64 m] w fun e w' => e = .returned (.int .u64 ((A ^ N % m : Nat) : Int)) ∧ ∃ n, w' = w.drewN n := by
  obtain ⟨T, hT⟩ : ∃ T, T = A ^ N % m := ⟨_, rfl⟩
  rw [← hT] at hy ⊢
  clear hT
  have hm0 : (m : Int) ≠ 0 := by omega
  go_enter Tryd.func28, Tryd.ntmps28
  go_wp2_with fail
  go_loopw [0, 1, 7] (fun t0 t1 t7 wr => PowRel m T w t0 t1 t7 wr) (fun _ t1 _ _ => (intOf t1).toNat)
  case atStart => exact ⟨x, N, y, by rw [ex], rfl, by rw [ey], hN.out, hy.out.1, hy.out.2, 0, rfl⟩
  case round =>
    clear ex ey
    obtain ⟨a, n, out, rfl, rfl, rfl, hnb, hout, hinv, k0, rfl⟩ := hrel
    have Hnb := Lib.hid hnb; clear hnb
    have Hout := Lib.hid hout; clear hout
    have Hinv := Lib.hid hinv; clear hinv
    obtain ⟨o', ho'⟩ : ∃ z, z = out * a % m := ⟨_, rfl⟩
    obtain ⟨a', ha'⟩ : ∃ z, z = a * a % m := ⟨_, rfl⟩
    have c1 : Hid (∀ w, Calls Tryd.prog 29 #[.int .u64 out, .int .u64 a, .int .u64 m] w fun e w' => e = .returned (.int .u64 (o' : Int)) ∧ ∃ n, w' = w.drewN n) := Lib.hid fun w => ho' ▸ times_any out a m w hm hm2.out
    have c2 : Hid (∀ w, Calls Tryd.prog 29 #[.int .u64 a, .int .u64 a, .int .u64 m] w fun e w' => e = .returned (.int .u64 (a' : Int)) ∧ ∃ n, w' = w.drewN n) := Lib.hid fun w => ha' ▸ times_any a a m w hm hm2.out
    have Ho' := Lib.hid ho'; clear ho'
    have Ha' := Lib.hid ha'; clear ha'
    by_cases hn : 1 ≤ n
    · obtain ⟨k, hk⟩ : ∃ k, k = n / 2 := ⟨_, rfl⟩
      have ek : (n : Int) / 2 = (k : Int) := by omega
      have ek' : IntKind.u64.wrap (k : Int) = (k : Int) := by rw [IntKind.wrap_u64]; have := Hnb.out; omega
      have Hk := Lib.hid hk; clear hk
      by_cases h2 : n % 2 = 1
      · go_wp2_with fail
        refine (c1.out _).mono ?_
        rintro e w' ⟨rfl, k1, rfl⟩
        go_wp2_with fail
        refine (c2.out _).mono ?_
        rintro e w' ⟨rfl, k2, rfl⟩
        go_wp2_with fail
        go_roundw
        case rel => exact ⟨a', k, o', rfl, rfl, rfl, by have := Hk.out; have := Hnb.out; omega, by rw [Ho'.out]; exact Nat.mod_lt _ hm, by rw [Ho'.out, Ha'.out, Hk.out, pow_odd h2]; exact Hinv.out, _, rfl⟩
        case measure => rw [intOf_u64, intOf_u64]; have := Hk.out; omega
      · have h3 : n % 2 = 0 := by omega
        clear h2
        go_wp2_with fail
        refine (c2.out _).mono ?_
        rintro e w' ⟨rfl, k2, rfl⟩
        go_wp2_with fail
        go_roundw
        case rel => exact ⟨a', k, out, rfl, rfl, rfl, by have := Hk.out; have := Hnb.out; omega, Hout.out, by rw [Ha'.out, Hk.out, pow_even h3]; exact Hinv.out, _, rfl⟩
        case measure => rw [intOf_u64, intOf_u64]; have := Hk.out; omega
    · obtain rfl : n = 0 := by omega
      go_wp2_with fail
      go_ret
      refine ⟨?_, _, rfl⟩
      have := Hinv.out
      rw [Nat.pow_zero, Nat.mul_one, Nat.mod_eq_of_lt Hout.out] at this
      show Ending.returned (.int .u64 (out : Int)) = _
      rw [this]

/-- prime.power: a to the n modulo m. -/
theorem power_any (a n m : Nat) (w : World) (hm : 0 < m) (hm2 : m < 18446744073709551616) (hn : n < 18446744073709551616) :
    Calls Tryd.prog 28 #[.int .u64 a, .int .u64 n, .int .u64 m] w fun e w' => e = .returned (.int .u64 ((a ^ n % m : Nat) : Int)) ∧ ∃ k, w' = w.drewN k :=
  power_core a n m (a % m) (1 % m) w hm (Lib.hid hm2) (Lib.hid hn) (Int.natCast_emod _ _).symm (Int.natCast_emod _ _).symm
    (Lib.hid ⟨Nat.mod_lt _ hm, by rw [Nat.mul_mod, Nat.mod_mod, ← Nat.mul_mod, Nat.one_mul, ← Nat.pow_mod]⟩)

/-- The loop of a product by doubling. -/
def DblRel (m T : Nat) (t0 t1 t7 : Value) : Prop :=
  ∃ a b out : Nat, t0 = .int .u64 a ∧ t1 = .int .u64 b ∧ t7 = .int .u64 out ∧ b < 18446744073709551616 ∧ a < m ∧ out < m ∧ (out + a * b) % m = T

theorem dbl_odd {m a b out : Nat} (h : b % 2 = 1) : ((out + a) % m + (a + a) % m * (b / 2)) % m = (out + a * b) % m := by
  have e : out + a * b = (out + a) + (a + a) * (b / 2) := by
    conv => lhs; rw [← Nat.div_add_mod b 2, h]
    rw [Nat.mul_add, Nat.mul_one, ← Nat.mul_assoc, Nat.mul_two]
    omega
  rw [e, Nat.mod_add_mod, Nat.add_mod, Nat.mul_mod, Nat.mod_mod, ← Nat.mul_mod, ← Nat.add_mod]

theorem dbl_even {m a b out : Nat} (h : b % 2 = 0) : (out + (a + a) % m * (b / 2)) % m = (out + a * b) % m := by
  have e : out + a * b = out + (a + a) * (b / 2) := by
    conv => lhs; rw [← Nat.div_add_mod b 2, h]
    rw [Nat.add_zero, ← Nat.mul_assoc, Nat.mul_two]
  rw [e, Nat.add_mod, Nat.mul_mod, Nat.mod_mod, ← Nat.mul_mod, ← Nat.add_mod]

set_option maxRecDepth 100000 in
set_option maxHeartbeats 400000 in
theorem rtimes_any (A B m : Nat) (w : World) (hA : Hid (A < m)) (hm2 : Hid (m ≤ 9223372036854775808)) (hB : Hid (B < 18446744073709551616)) :
    Calls Tryd.prog 30 #[.int .u64 A, .int .u64 B, .int .u64 m] w fun e w' => e = .returned (.int .u64 ((A * B % m : Nat) : Int)) ∧ w = w' := by
  obtain ⟨T, hT⟩ : ∃ T, T = A * B % m := ⟨_, rfl⟩
  rw [← hT]
  have HT := Lib.hid hT; clear hT
  have hm : 1 ≤ m := by have := hA.out; omega
  have hm0 : (m : Int) ≠ 0 := by omega
  go_enter Tryd.func30, Tryd.ntmps30
  go_wp2_with fail
  go_loop [0, 1, 7] (fun t0 t1 t7 => DblRel m T t0 t1 t7) (fun _ t1 _ => (intOf t1).toNat)
  case atStart => exact ⟨A, B, 0, rfl, rfl, rfl, hB.out, hA.out, by omega, by rw [HT.out, Nat.zero_add]⟩
  case round =>
    obtain ⟨a, n, out, rfl, rfl, rfl, hnb, ha, hout, hinv⟩ := hrel
    have Hnb := Lib.hid hnb; clear hnb
    have Hout := Lib.hid hout; clear hout
    have Hinv := Lib.hid hinv; clear hinv
    have Ha := Lib.hid ha; clear ha
    obtain ⟨o', ho'⟩ : ∃ z, z = (out + a) % m := ⟨_, rfl⟩
    obtain ⟨a', ha'⟩ : ∃ z, z = (a + a) % m := ⟨_, rfl⟩
    have wN : ∀ a : Nat, a < 18446744073709551616 → IntKind.u64.wrap (a : Int) = (a : Int) := fun a ha => by rw [IntKind.wrap_u64]; omega
    obtain ⟨s1, hs1⟩ : ∃ s, s = out + a := ⟨_, rfl⟩
    obtain ⟨s2, hs2⟩ : ∃ s, s = a + a := ⟨_, rfl⟩
    have e1 : IntKind.u64.wrap ((out : Int) + (a : Int)) = (s1 : Int) := by
      have := Hout.out; have := Ha.out; have := hm2.out
      rw [← Int.natCast_add, wN _ (by omega), hs1]
    have e2 : IntKind.u64.wrap ((a : Int) + (a : Int)) = (s2 : Int) := by
      have := Ha.out; have := hm2.out
      rw [← Int.natCast_add, wN _ (by omega), hs2]
    have f1 : (s1 : Int) % (m : Int) = (o' : Int) := by rw [ho', hs1, Int.natCast_emod]
    have f2 : (s2 : Int) % (m : Int) = (a' : Int) := by rw [ha', hs2, Int.natCast_emod]
    have Ho' := Lib.hid ho'; clear ho'
    have Ha' := Lib.hid ha'; clear ha'
    clear hs1 hs2 wN
    by_cases hn : 1 ≤ n
    · obtain ⟨k, hk⟩ : ∃ k, k = n / 2 := ⟨_, rfl⟩
      have ek : (n : Int) / 2 = (k : Int) := by omega
      have ek' : IntKind.u64.wrap (k : Int) = (k : Int) := by rw [IntKind.wrap_u64]; have := Hnb.out; omega
      have Hk := Lib.hid hk; clear hk
      by_cases h2 : n % 2 = 1
      · go_wp2_with fail
        go_round
        case rel => exact ⟨a', k, o', by rw [f2], rfl, by rw [f1], by have := Hk.out; have := Hnb.out; omega, by rw [Ha'.out]; exact Nat.mod_lt _ hm, by rw [Ho'.out]; exact Nat.mod_lt _ hm, by rw [Ho'.out, Ha'.out, Hk.out, dbl_odd h2]; exact Hinv.out⟩
        case measure => rw [intOf_u64, intOf_u64]; have := Hk.out; omega
      · have h3 : n % 2 = 0 := by omega
        clear h2
        go_wp2_with fail
        go_round
        case rel => exact ⟨a', k, out, by rw [f2], rfl, rfl, by have := Hk.out; have := Hnb.out; omega, by rw [Ha'.out]; exact Nat.mod_lt _ hm, Hout.out, by rw [Ha'.out, Hk.out, dbl_even h3]; exact Hinv.out⟩
        case measure => rw [intOf_u64, intOf_u64]; have := Hk.out; omega
    · obtain rfl : n = 0 := by omega
      go_wp2_with fail
      go_ret
      refine ⟨?_, rfl⟩
      have := Hinv.out
      rw [Nat.mul_zero, Nat.add_zero, Nat.mod_eq_of_lt Hout.out] at this
      show Ending.returned (.int .u64 (out : Int)) = _
      rw [this]

/-- The loop of the reference's power by squaring: what is left to do. -/
def RPowRel (m T : Nat) (t0 t1 t7 : Value) : Prop :=
  ∃ a n out : Nat, t0 = .int .u64 a ∧ t1 = .int .u64 n ∧ t7 = .int .u64 out ∧ n < 18446744073709551616 ∧ a < m ∧ out < m ∧ out * a ^ n % m = T

set_option maxRecDepth 100000 in
set_option maxHeartbeats 400000 in
theorem rpower_core (A N m x y : Nat) (w : World) (hm : 1 ≤ m) (hm2 : Hid (m ≤ 9223372036854775808)) (hN : Hid (N < 18446744073709551616)) (ex : (A : Int) % (m : Int) = (x : Int)) (ey : (1 : Int) % (m : Int) = (y : Int)) (hy : Hid (x < m ∧ y < m ∧ y * x ^ N % m = A ^ N % m)) :
    Calls Tryd.prog 16 #[.int .u64 A, .int .u64 N, .int .u64 m] w fun e w' => e = .returned (.int .u64 ((A ^ N % m : Nat) : Int)) ∧ w = w' := by
  obtain ⟨T, hT⟩ : ∃ T, T = A ^ N % m := ⟨_, rfl⟩
  rw [← hT] at hy ⊢
  clear hT
  have hm0 : (m : Int) ≠ 0 := by omega
  go_enter Tryd.func16, Tryd.ntmps16
  go_wp2_with fail
  go_loop [0, 1, 7] (fun t0 t1 t7 => RPowRel m T t0 t1 t7) (fun _ t1 _ => (intOf t1).toNat)
  case atStart => exact ⟨x, N, y, by rw [ex], rfl, by rw [ey], hN.out, hy.out.1, hy.out.2.1, hy.out.2.2⟩
  case round =>
    clear ex ey
    obtain ⟨a, n, out, rfl, rfl, rfl, hnb, ha, hout, hinv⟩ := hrel
    have Hnb := Lib.hid hnb; clear hnb
    have Ha := Lib.hid ha; clear ha
    have Hout := Lib.hid hout; clear hout
    have Hinv := Lib.hid hinv; clear hinv
    obtain ⟨o', ho'⟩ : ∃ z, z = out * a % m := ⟨_, rfl⟩
    obtain ⟨a', ha'⟩ : ∃ z, z = a * a % m := ⟨_, rfl⟩
    have ba : a < 18446744073709551616 := by have := Ha.out; have := hm2.out; omega
    have c1 : Hid (∀ w, Calls Tryd.prog 30 #[.int .u64 out, .int .u64 a, .int .u64 m] w fun e w' => e = .returned (.int .u64 (o' : Int)) ∧ w = w') := Lib.hid fun w => ho' ▸ rtimes_any out a m w Hout hm2 (Lib.hid ba)
    have c2 : Hid (∀ w, Calls Tryd.prog 30 #[.int .u64 a, .int .u64 a, .int .u64 m] w fun e w' => e = .returned (.int .u64 (a' : Int)) ∧ w = w') := Lib.hid fun w => ha' ▸ rtimes_any a a m w Ha hm2 (Lib.hid ba)
    clear ba
    have Ho' := Lib.hid ho'; clear ho'
    have Ha' := Lib.hid ha'; clear ha'
    by_cases hn : 1 ≤ n
    · obtain ⟨k, hk⟩ : ∃ k, k = n / 2 := ⟨_, rfl⟩
      have ek : (n : Int) / 2 = (k : Int) := by omega
      have ek' : IntKind.u64.wrap (k : Int) = (k : Int) := by rw [IntKind.wrap_u64]; have := Hnb.out; omega
      have Hk := Lib.hid hk; clear hk
      by_cases h2 : n % 2 = 1
      · go_wp2_with fail
        refine (c1.out _).mono ?_
        rintro e w' ⟨rfl, rfl⟩
        go_wp2_with fail
        refine (c2.out _).mono ?_
        rintro e w' ⟨rfl, rfl⟩
        go_wp2_with fail
        go_round
        case rel => exact ⟨a', k, o', rfl, rfl, rfl, by have := Hk.out; have := Hnb.out; omega, by rw [Ha'.out]; exact Nat.mod_lt _ hm, by rw [Ho'.out]; exact Nat.mod_lt _ hm, by rw [Ho'.out, Ha'.out, Hk.out, pow_odd h2]; exact Hinv.out⟩
        case measure => rw [intOf_u64, intOf_u64]; have := Hk.out; omega
      · have h3 : n % 2 = 0 := by omega
        clear h2
        go_wp2_with fail
        refine (c2.out _).mono ?_
        rintro e w' ⟨rfl, rfl⟩
        go_wp2_with fail
        go_round
        case rel => exact ⟨a', k, out, rfl, rfl, rfl, by have := Hk.out; have := Hnb.out; omega, by rw [Ha'.out]; exact Nat.mod_lt _ hm, Hout.out, by rw [Ha'.out, Hk.out, pow_even h3]; exact Hinv.out⟩
        case measure => rw [intOf_u64, intOf_u64]; have := Hk.out; omega
    · obtain rfl : n = 0 := by omega
      go_wp2_with fail
      go_ret
      refine ⟨?_, rfl⟩
      have := Hinv.out
      rw [Nat.pow_zero, Nat.mul_one, Nat.mod_eq_of_lt Hout.out] at this
      show Ending.returned (.int .u64 (out : Int)) = _
      rw [this]

/-- The reference's Power: a to the n modulo m. -/
theorem rpower_any (a n m : Nat) (w : World) (hm : 0 < m) (hm2 : m ≤ 9223372036854775808) (hn : n < 18446744073709551616) :
    Calls Tryd.prog 16 #[.int .u64 a, .int .u64 n, .int .u64 m] w fun e w' => e = .returned (.int .u64 ((a ^ n % m : Nat) : Int)) ∧ w = w' :=
  rpower_core a n m (a % m) (1 % m) w hm (Lib.hid hm2) (Lib.hid hn) (Int.natCast_emod _ _).symm (Int.natCast_emod _ _).symm
    (Lib.hid ⟨Nat.mod_lt _ hm, Nat.mod_lt _ hm, by rw [Nat.mul_mod, Nat.mod_mod, ← Nat.mul_mod, Nat.one_mul, ← Nat.pow_mod]⟩)
end Go.Proofs.YtpphfeinmmmckaaDoor
