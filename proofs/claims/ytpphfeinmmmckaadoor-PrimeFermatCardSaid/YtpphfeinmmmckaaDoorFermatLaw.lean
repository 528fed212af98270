/-
  PrimeFermat: the law's walk; what is asked of a number that is called a prime stands as a condition.
-/
import Derived.Test.YtpphfeinmmmckaaDoorMFac
namespace Go.Proofs.YtpphfeinmmmckaaDoor
open Go.RowKit

set_option maxRecDepth 100000 in
set_option maxHeartbeats 400000 in
theorem fermatlaw_lo (n a : Nat) (w : World) (hT : Hid (TabAt w)) (e1 : decide ((n : Int) < 2) = true) :
    Calls Tryd.prog 5 #[.int .u64 n, .int .u64 a] w fun e w' => e = .returned (.bool true) ∧ Below w.heap.size w w' := by
  have c13 := Lib.hid (alive_any w hT)
  go_enter Tryd.func5, Tryd.ntmps5
  go_wp2_with fail
  refine c13.out.mono ?_
  rintro e w1 ⟨rfl, hb⟩
  have Hb := Lib.hid hb; clear hb
  go_wp2_with fail
  go_ret
  exact ⟨rfl, Hb.out⟩

set_option maxRecDepth 100000 in
set_option maxHeartbeats 400000 in
theorem fermatlaw_hi (n a : Nat) (w : World) (hT : Hid (TabAt w)) (e1 : decide ((n : Int) < 2) = false) (e2 : decide ((9223372036854775808 : Int) ≤ (n : Int)) = true) :
    Calls Tryd.prog 5 #[.int .u64 n, .int .u64 a] w fun e w' => e = .returned (.bool true) ∧ Below w.heap.size w w' := by
  have c13 := Lib.hid (alive_any w hT)
  go_enter Tryd.func5, Tryd.ntmps5
  go_wp2_with fail
  refine c13.out.mono ?_
  rintro e w1 ⟨rfl, hb⟩
  have Hb := Lib.hid hb; clear hb
  go_wp2_with fail
  go_ret
  exact ⟨rfl, Hb.out⟩

set_option maxRecDepth 100000 in
set_option maxHeartbeats 400000 in
theorem fermatlaw_no (n a : Nat) (w : World) (hT : Hid (TabAt w)) (e1 : decide ((n : Int) < 2) = false) (e2 : decide ((9223372036854775808 : Int) ≤ (n : Int)) = false) (hm : Hid (mrIs n = false)) :
    Calls Tryd.prog 5 #[.int .u64 n, .int .u64 a] w fun e w' => e = .returned (.bool true) ∧ Below w.heap.size w w' := by
  have c13 := Lib.hid (alive_any w hT)
  have c14 : Hid (∀ w, TabAt w → Calls Tryd.prog 14 #[.int .u64 n] w fun e w' => e = .returned (.bool false) ∧ Below w.heap.size w w') := Lib.hid fun w hw => hm.out ▸ is_any n w hw
  go_enter Tryd.func5, Tryd.ntmps5
  go_wp2_with fail
  refine c13.out.mono ?_
  rintro e w1 ⟨rfl, hb⟩
  have Hb := Lib.hid hb; clear hb
  go_wp2_with fail
  refine (c14.out _ (tab_below hT.out Hb.out)).mono ?_
  rintro e w2 ⟨rfl, hb2⟩
  have Hb2 := Lib.hid hb2; clear hb2
  go_wp2_with fail
  go_ret
  exact ⟨rfl, Hb.out.trans (Hb2.out.mono Hb.out.size)⟩

set_option maxRecDepth 100000 in
set_option maxHeartbeats 400000 in
theorem fermatlaw_yes (n a m : Nat) (w : World) (hT : Hid (TabAt w)) (e1 : decide ((n : Int) < 2) = false) (e2 : decide ((9223372036854775808 : Int) ≤ (n : Int)) = false) (hm : Hid (mrIs n = true))
    (c16 : Hid (∀ w, Calls Tryd.prog 16 #[.int .u64 a, .int .u64 n, .int .u64 n] w fun e w' => e = .returned (.int .u64 (m : Int)) ∧ w = w')) (em : (a : Int) % (n : Int) = (m : Int)) (e3 : ¬ n = 0) :
    Calls Tryd.prog 5 #[.int .u64 n, .int .u64 a] w fun e w' => e = .returned (.bool true) ∧ Below w.heap.size w w' := by
  have e4 : (n : Int) ≠ 0 := by omega
  have c13 := Lib.hid (alive_any w hT)
  have c14 : Hid (∀ w, TabAt w → Calls Tryd.prog 14 #[.int .u64 n] w fun e w' => e = .returned (.bool true) ∧ Below w.heap.size w w') := Lib.hid fun w hw => hm.out ▸ is_any n w hw
  go_enter Tryd.func5, Tryd.ntmps5
  go_wp2_with fail
  refine c13.out.mono ?_
  rintro e w1 ⟨rfl, hb⟩
  have Hb := Lib.hid hb; clear hb
  go_wp2_with fail
  refine (c14.out _ (tab_below hT.out Hb.out)).mono ?_
  rintro e w2 ⟨rfl, hb2⟩
  have Hb2 := Lib.hid hb2; clear hb2
  go_wp2_with fail
  go_quiet ((go_at_call 16; exact quiet_left (c16.out _)))
  go_wp2_with fail
  go_ret
  exact ⟨rfl, below_drewN (Hb.out.trans (Hb2.out.mono Hb.out.size)) _⟩

/-- The law. -/
theorem fermatlaw_any (n a : Nat) (w : World) (hn : n < 18446744073709551616) (hT : Hid (TabAt w)) (hf : mrIs n = true → a ^ n % n = a % n) :
    Calls Tryd.prog 5 #[.int .u64 n, .int .u64 a] w fun e w' => e = .returned (.bool true) ∧ Below w.heap.size w w' := by
  by_cases h1 : n < 2
  · exact fermatlaw_lo n a w hT (decide_eq_true (by omega))
  · by_cases h2 : 9223372036854775808 ≤ n
    · exact fermatlaw_hi n a w hT (decide_eq_false (by omega)) (decide_eq_true (by omega))
    · rcases hm : mrIs n with _ | _
      · exact fermatlaw_no n a w hT (decide_eq_false (by omega)) (decide_eq_false (by omega)) (Lib.hid hm)
      · refine fermatlaw_yes n a (a % n) w hT (decide_eq_false (by omega)) (decide_eq_false (by omega)) (Lib.hid hm) (Lib.hid fun w => ?_) (Int.natCast_emod _ _).symm (by omega)
        have h := rpower_any a n n w (by omega) (by omega) hn
        rwa [hf hm] at h
end Go.Proofs.YtpphfeinmmmckaaDoor
