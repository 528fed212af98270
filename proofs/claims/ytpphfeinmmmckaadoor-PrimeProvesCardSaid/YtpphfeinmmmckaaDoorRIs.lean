/-
  The walk of the reference's Is: by trial.
-/
import Derived.Test.YtpphfeinmmmckaaDoorNext
import Derived.Test.YtpphfeinmmmckaaDoorNt
namespace Go.Proofs.YtpphfeinmmmckaaDoor
open Go.RowKit

set_option maxRecDepth 100000 in
set_option maxHeartbeats 400000 in
theorem ris_small (n : Nat) (w : World) (e1 : decide ((n : Int) < 2) = true) :
    Calls Tryd.prog 15 #[.int .u64 n] w fun e w' => e = .returned (.bool false) ∧ w = w' := by
  go_enter Tryd.func15, Tryd.ntmps15
  go_wp2_with fail
  go_ret
  exact ⟨rfl, rfl⟩

set_option maxRecDepth 100000 in
set_option maxHeartbeats 400000 in
theorem ris_prime (n : Nat) (w : World) (hp : Hid (Nt.Prime n)) (hb : Hid (n < 9223372036854775808)) (e1 : decide ((n : Int) < 2) = false) (e2 : decide ((9223372036854775808 : Int) ≤ (n : Int)) = false) :
    Calls Tryd.prog 15 #[.int .u64 n] w fun e w' => e = .returned (.bool true) ∧ w = w' := by
  go_enter Tryd.func15, Tryd.ntmps15
  go_wp2_with fail
  go_loop [3] (fun t3 => ∃ d : Nat, t3 = .int .u64 d ∧ 2 ≤ d ∧ d ≤ n) (fun t3 => n - (intOf t3).toNat)
  case atStart => exact ⟨2, rfl, by omega, hp.out.1⟩
  case round =>
    obtain ⟨d, rfl, hd, hdn⟩ := hrel
    obtain ⟨dq, hdq⟩ : ∃ dq, dq = n / d := ⟨_, rfl⟩
    have ed : (n : Int) / (d : Int) = (dq : Int) := by rw [hdq, Int.natCast_ediv]
    have ed' : IntKind.u64.wrap (dq : Int) = (dq : Int) := by
      have : dq ≤ n := hdq ▸ Nat.div_le_self _ _
      rw [IntKind.wrap_u64]; have := hb.out; omega
    have en : IntKind.u64.wrap ((d : Int) + 1) = (d : Int) + 1 := by rw [IntKind.wrap_u64]; have := hb.out; omega
    have hd0 : (d : Int) ≠ 0 := by omega
    have hdqn : 2 * dq ≤ n := by
      have h1 : n / d * d ≤ n := Nat.div_mul_le_self n d
      have h2 : dq * 2 ≤ dq * d := Nat.mul_le_mul_left _ hd
      rw [← hdq] at h1
      omega
    have Hdn := Lib.hid hdn; clear hdn
    have Hdqn := Lib.hid hdqn; clear hdqn
    by_cases hle : d ≤ dq
    · have hsq : d * d ≤ n := by
        have h1 : n / d * d ≤ n := Nat.div_mul_le_self n d
        have h2 : d * d ≤ dq * d := Nat.mul_le_mul_right _ hle
        rw [hdq] at h2
        omega
      have hm := ((Nt.prime_iff n).1 hp.out).2 d hd hsq
      have ht : ((n : Int) % (d : Int) == 0) = false := by rw [beq_eq_false_iff_ne]; omega
      have Hdq := Lib.hid hdq; clear hdq hsq hm
      go_wp2_with fail
      go_round
      case rel => exact ⟨d + 1, by go_num, by omega, by have := Hdqn.out; omega⟩
      case measure => have := Hdqn.out; simp [intOf]; omega
    · have Hdq := Lib.hid hdq; clear hdq
      go_wp2_with fail
      go_ret
      exact ⟨rfl, rfl⟩

set_option maxRecDepth 100000 in
set_option maxHeartbeats 400000 in
theorem ris_comp (n p : Nat) (w : World) (hp : 2 ≤ p) (hpn : Hid (p * p ≤ n)) (hdiv : Hid (n % p = 0)) (hmin : Hid (∀ d, 2 ≤ d → d < p → n % d ≠ 0)) (hb : Hid (n < 9223372036854775808)) (e1 : decide ((n : Int) < 2) = false) (e2 : decide ((9223372036854775808 : Int) ≤ (n : Int)) = false) :
    Calls Tryd.prog 15 #[.int .u64 n] w fun e w' => e = .returned (.bool false) ∧ w = w' := by
  go_enter Tryd.func15, Tryd.ntmps15
  go_wp2_with fail
  go_loop [3] (fun t3 => ∃ d : Nat, t3 = .int .u64 d ∧ 2 ≤ d ∧ d ≤ p) (fun t3 => p - (intOf t3).toNat)
  case atStart => exact ⟨2, rfl, by omega, hp⟩
  case round =>
    obtain ⟨d, rfl, hd, hdp⟩ := hrel
    have hsq : d * d ≤ n := Nat.le_trans (Nat.mul_le_mul hdp hdp) hpn.out
    have hdn : d ≤ n := Nat.le_trans (Nat.le_mul_of_pos_left d (by omega)) hsq
    obtain ⟨dq, hdq⟩ : ∃ dq, dq = n / d := ⟨_, rfl⟩
    have hle : d ≤ dq := by rw [hdq]; exact (Nat.le_div_iff_mul_le (by omega)).2 hsq
    have ed : (n : Int) / (d : Int) = (dq : Int) := by rw [hdq, Int.natCast_ediv]
    have ed' : IntKind.u64.wrap (dq : Int) = (dq : Int) := by
      have : dq ≤ n := hdq ▸ Nat.div_le_self _ _
      rw [IntKind.wrap_u64]; have := hb.out; omega
    have en : IntKind.u64.wrap ((d : Int) + 1) = (d : Int) + 1 := by rw [IntKind.wrap_u64]; have := hb.out; omega
    have hd0 : (d : Int) ≠ 0 := by omega
    have Hdq := Lib.hid hdq; clear hdq
    have Hsq := Lib.hid (And.intro hsq hdn); clear hsq hdn
    by_cases hlt : d < p
    · have hm := hmin.out d hd hlt
      have ht : ((n : Int) % (d : Int) == 0) = false := by rw [beq_eq_false_iff_ne]; omega
      clear hm
      go_wp2_with fail
      go_round
      case rel => exact ⟨d + 1, by go_num, by omega, by omega⟩
      case measure => simp [intOf]; omega
    · obtain rfl : d = p := by omega
      have hm := hdiv.out
      have ht : ((n : Int) % (d : Int) == 0) = true := by rw [beq_iff_eq]; omega
      clear hm
      go_wp2_with fail
      go_ret
      exact ⟨rfl, rfl⟩

/-- The reference's Is says yes just to the primes. -/
theorem ris_any (n : Nat) (b : Bool) (w : World) (hb : n < 9223372036854775808) (h : b = true ↔ Nt.Prime n) :
    Calls Tryd.prog 15 #[.int .u64 n] w fun e w' => e = .returned (.bool b) ∧ w = w' := by
  by_cases h2 : n < 2
  · have : b = false := by
      rcases b with _ | _
      · rfl
      · have := (h.1 rfl).1; omega
    rw [this]
    exact ris_small n w (decide_eq_true (by omega))
  · have e1 : decide ((n : Int) < 2) = false := decide_eq_false (by omega)
    have e2 : decide ((9223372036854775808 : Int) ≤ (n : Int)) = false := decide_eq_false (by omega)
    by_cases hp : Nt.Prime n
    · rw [h.2 hp]
      exact ris_prime n w (Lib.hid hp) (Lib.hid hb) e1 e2
    · have : b = false := by
        rcases b with _ | _
        · rfl
        · exact absurd (h.1 rfl) hp
      rw [this]
      obtain ⟨p, hpp, ⟨c, hc⟩, hmin⟩ := Nt.least_factor n (by omega)
      have hp2 := hpp.1
      have hc2 : 2 ≤ c := by
        rcases c with _ | _ | c
        · simp at hc; omega
        · exact absurd (by rw [hc, Nat.mul_one]; exact hpp) hp
        · omega
      have h3 := hmin c hc2 ⟨p, by rw [hc, Nat.mul_comm]⟩
      refine ris_comp n p w hp2 (Lib.hid (by rw [hc]; exact Nat.mul_le_mul_left _ h3)) (Lib.hid (Nat.mod_eq_zero_of_dvd ⟨c, hc⟩)) (Lib.hid fun d h4 h5 h6 => ?_) (Lib.hid hb) e1 e2
      have := hmin d h4 (Nat.dvd_of_mod_eq_zero h6)
      omega
end Go.Proofs.YtpphfeinmmmckaaDoor
