/-
  PrimeShown: the walk of the law.
-/
import Derived.Test.YtpphfeinmmmckaaDoorShownTrue
import Derived.Test.YtpphfeinmmmckaaDoorNext
namespace Go.Proofs.YtpphfeinmmmckaaDoor
open Go.RowKit

set_option maxRecDepth 100000 in
theorem holds_none (x cap : Nat) (a : Option Addr) (w : World) :
    Calls Tryd.prog 24 #[.int .u64 x, .slice a 0 cap] w fun e w' => e = .returned (.bool (x == 2)) ∧ Below w.heap.size w w' := by
  have tx : ((x : Int) == 2) = (x == 2) := by rw [Bool.eq_iff_iff, beq_iff_eq, beq_iff_eq]; omega
  go_enter Tryd.func24, Tryd.ntmps24
  go_wp2_with fail
  go_ret
  refine ⟨?_, (Below.refl _ _).alloc (Nat.le_refl _) _⟩
  rw [← tx]
  rfl

theorem holds_any (x len cap : Nat) (l : List StepV) (a : Option Addr) (w : World) (hl : l.length = len) (hp : PaperAt w a l) (hcap : len ≤ cap) :
    Calls Tryd.prog 24 #[.int .u64 x, .slice a len cap] w fun e w' => e = .returned (.bool (holdsF x l)) ∧ Below w.heap.size w w' := by
  by_cases h0 : 0 < len
  · obtain ⟨A, rfl⟩ := hp.at_ (by omega)
    have := holds_some x len cap l (Lib.hid hl) h0 A w (Lib.hid hp) (Lib.hid hcap) (Lib.hid (by have := hp.len; omega))
    rw [holdsF, if_neg (by omega), hl]
    exact this
  · obtain rfl : len = 0 := by omega
    have := holds_none x cap a w
    rw [holdsF, if_pos hl]
    exact this

set_option maxRecDepth 100000 in
set_option maxHeartbeats 800000 in
theorem shown_law (n len cap : Nat) (l : List StepV) (a : Option Addr) (w : World) (hT : Hid (TabAt w)) (hl : Hid (l.length = len)) (hp : Hid (PaperAt w a l)) (hcap : Hid (len ≤ cap)) (_ : Hid (n < 18446744073709551616)) :
    Calls Tryd.prog 11 #[.int .u64 n, .slice a len cap] w fun e w' => e = .returned (.bool true) ∧ Below w.heap.size w w' := by
  have c13 := Lib.hid (alive_any w hT)
  have c24 : Hid (∀ W, Below w.heap.size w W → Calls Tryd.prog 24 #[.int .u64 n, .slice a len cap] W fun e w' => e = .returned (.bool (holdsF n l)) ∧ Below W.heap.size W w') :=
    Lib.hid fun W hW => holds_any n len cap l a W hl.out (hp.out.later hW) hcap.out
  obtain ⟨hd, hhd⟩ : ∃ z, z = holdsF n l := ⟨_, rfl⟩
  rw [← hhd] at c24
  have Hh := Lib.hid hhd; clear hhd
  go_enter Tryd.func11, Tryd.ntmps11
  go_wp2_with fail
  refine c13.out.mono ?_
  rintro e w1 ⟨rfl, hb⟩
  have Hb := Lib.hid hb; clear hb
  by_cases g1 : 1099511627776 ≤ n
  · have t1 : decide ((1099511627776 : Int) ≤ (n : Int)) = true := decide_eq_true (by omega)
    clear g1
    go_wp2_with fail
    go_ret
    exact ⟨rfl, Hb.out⟩
  have t1 : decide ((1099511627776 : Int) ≤ (n : Int)) = false := decide_eq_false (by omega)
  by_cases g2 : 20 < len
  · have t2 : decide ((20 : Int) < (len : Int)) = true := decide_eq_true (by omega)
    clear g1 g2
    go_wp2_with fail
    go_ret
    exact ⟨rfl, Hb.out⟩
  have t2 : decide ((20 : Int) < (len : Int)) = false := decide_eq_false (by omega)
  have hn : Hid (n < 1099511627776) := Lib.hid (by omega)
  clear g1 g2
  go_wp2_with fail
  refine (c24.out _ Hb.out).mono ?_
  rintro e w2 ⟨rfl, hb2⟩
  have Hb2 := Lib.hid (Hb.out.trans (hb2.mono Hb.out.size)); clear hb2
  cases hdc : hd with
  | false =>
    go_wp2_with fail
    go_ret
    exact ⟨rfl, Hb2.out⟩
  | true =>
    have hpr : Hid (Nt.Prime n) := Lib.hid (holds_prime (by rw [← Hh.out]; exact hdc))
    go_wp2_with fail
    go_loop [5] (fun t5 => ∃ d : Nat, t5 = .int .u64 d ∧ 2 ≤ d ∧ d ≤ n) (fun t5 => n - (intOf t5).toNat)
    case atStart => exact ⟨2, rfl, by omega, hpr.out.1⟩
    case round =>
      obtain ⟨d, rfl, hd, hdn⟩ := hrel
      obtain ⟨dq, hdq⟩ : ∃ dq, dq = n / d := ⟨_, rfl⟩
      have ed : (n : Int) / (d : Int) = (dq : Int) := by rw [hdq, Int.natCast_ediv]
      have ed' : IntKind.u64.wrap (dq : Int) = (dq : Int) := by
        have : dq ≤ n := hdq ▸ Nat.div_le_self _ _
        rw [IntKind.wrap_u64]; have := hn.out; omega
      have en : IntKind.u64.wrap ((d : Int) + 1) = (d : Int) + 1 := by rw [IntKind.wrap_u64]; have := hn.out; omega
      have hd0 : (d : Int) ≠ 0 := by omega
      have hdqn : 2 * dq ≤ n := by
        have h1 : n / d * d ≤ n := Nat.div_mul_le_self n d
        have h2 : dq * 2 ≤ dq * d := Nat.mul_le_mul_left _ hd
        rw [← hdq] at h1
        omega
      have Hdn := Lib.hid hdn; clear hdn
      have Hdqn := Lib.hid hdqn; clear hdqn
      by_cases hle : d ≤ dq
      · have hsq : d * d ≤ n := by
          have h1 : n / d * d ≤ n := Nat.div_mul_le_self n d
          have h2 : d * d ≤ dq * d := Nat.mul_le_mul_right _ hle
          rw [hdq] at h2
          omega
        have hm := ((Nt.prime_iff n).1 hpr.out).2 d hd hsq
        have ht : ((n : Int) % (d : Int) == 0) = false := by rw [beq_eq_false_iff_ne]; omega
        have Hdq := Lib.hid hdq; clear hdq hsq hm
        go_wp2_with fail
        go_round
        case rel => exact ⟨d + 1, by go_num, by omega, by have := Hdqn.out; omega⟩
        case measure => have := Hdqn.out; simp [intOf]; omega
      · have Hdq := Lib.hid hdq; clear hdq
        have tf : decide ((1 : Int) < (n : Int)) = true := decide_eq_true (by have := hpr.out.1; omega)
        go_wp2_with fail
        go_ret
        refine ⟨?_, Hb2.out⟩
        rw [← tf]
        rfl
end Go.Proofs.YtpphfeinmmmckaaDoor
