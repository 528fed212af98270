/-
  PrimeIs: the law's walk.
-/
import Derived.Test.YtpphfeinmmmckaaDoorRIs
import Derived.Test.YtpphfeinmmmckaaDoorRight
namespace Go.Proofs.YtpphfeinmmmckaaDoor
open Go.RowKit

set_option maxRecDepth 100000 in
set_option maxHeartbeats 400000 in
theorem islaw_big (n : Nat) (w : World) (hT : Hid (TabAt w)) (e1 : decide ((9223372036854775808 : Int) ≤ (n : Int)) = true) (hm : Hid (mrIs n = false)) :
    Calls Tryd.prog 3 #[.int .u64 n] w fun e w' => e = .returned (.bool true) ∧ Below w.heap.size w w' := by
  have c13 := Lib.hid (alive_any w hT)
  have c14 : Hid (∀ w, TabAt w → Calls Tryd.prog 14 #[.int .u64 n] w fun e w' => e = .returned (.bool false) ∧ Below w.heap.size w w') := Lib.hid fun w hw => hm.out ▸ is_any n w hw
  go_enter Tryd.func3, Tryd.ntmps3
  go_wp2_with fail
  refine c13.out.mono ?_
  rintro e w1 ⟨rfl, hb⟩
  have Hb := Lib.hid hb; clear hb
  go_wp2_with fail
  refine (c14.out _ (tab_below hT.out Hb.out)).mono ?_
  rintro e w2 ⟨rfl, hb2⟩
  have Hb2 := Lib.hid hb2; clear hb2
  go_wp2_with fail
  go_ret
  exact ⟨rfl, Hb.out.trans (Hb2.out.mono Hb.out.size)⟩

set_option maxRecDepth 100000 in
set_option maxHeartbeats 800000 in
theorem islaw_in (n m : Nat) (w : World) (b1 b2 : Bool) (hT : Hid (TabAt w)) (e1 : decide ((9223372036854775808 : Int) ≤ (n : Int)) = false) (em : (n : Int) % 4294967296 = (m : Int))
    (c1 : Hid (∀ w, TabAt w → Calls Tryd.prog 14 #[.int .u64 m] w fun e w' => e = .returned (.bool b1) ∧ Below w.heap.size w w'))
    (c2 : Hid (∀ w, Calls Tryd.prog 15 #[.int .u64 m] w fun e w' => e = .returned (.bool b1) ∧ w = w'))
    (c3 : Hid (∀ w, TabAt w → Calls Tryd.prog 14 #[.int .u64 n] w fun e w' => e = .returned (.bool b2) ∧ Below w.heap.size w w'))
    (h3 : b2 = true → decide ((1 : Int) < (n : Int)) = true) :
    Calls Tryd.prog 3 #[.int .u64 n] w fun e w' => e = .returned (.bool true) ∧ Below w.heap.size w w' := by
  have c13 := Lib.hid (alive_any w hT)
  go_enter Tryd.func3, Tryd.ntmps3
  go_wp2_with fail
  refine c13.out.mono ?_
  rintro e w1 ⟨rfl, hb⟩
  have Hb := Lib.hid hb; clear hb
  go_wp2_with fail
  refine (c1.out _ (tab_below hT.out Hb.out)).mono ?_
  rintro e w2 ⟨rfl, hb2⟩
  have hbb := Hb.out.trans (hb2.mono Hb.out.size)
  have Hb2 := Lib.hid hbb; clear hb2 hbb
  go_wp2_with fail
  refine (c2.out _).mono ?_
  rintro e w' ⟨rfl, rfl⟩
  cases b1 <;> cases b2
  · go_wp2_with fail
    refine (c3.out _ (tab_below hT.out Hb2.out)).mono ?_
    rintro e w3 ⟨rfl, hb3⟩
    have Hb3 := Lib.hid hb3; clear hb3
    go_wp2_with fail
    go_ret
    exact ⟨rfl, Hb2.out.trans (Hb3.out.mono Hb2.out.size)⟩
  · have h4 := h3 rfl
    clear h3
    go_wp2_with fail
    refine (c3.out _ (tab_below hT.out Hb2.out)).mono ?_
    rintro e w3 ⟨rfl, hb3⟩
    have Hb3 := Lib.hid hb3; clear hb3
    go_wp2_with fail
    go_ret
    exact ⟨rfl, Hb2.out.trans (Hb3.out.mono Hb2.out.size)⟩
  · go_wp2_with fail
    refine (c3.out _ (tab_below hT.out Hb2.out)).mono ?_
    rintro e w3 ⟨rfl, hb3⟩
    have Hb3 := Lib.hid hb3; clear hb3
    go_wp2_with fail
    go_ret
    exact ⟨rfl, Hb2.out.trans (Hb3.out.mono Hb2.out.size)⟩
  · have h4 := h3 rfl
    clear h3
    go_wp2_with fail
    refine (c3.out _ (tab_below hT.out Hb2.out)).mono ?_
    rintro e w3 ⟨rfl, hb3⟩
    have Hb3 := Lib.hid hb3; clear hb3
    go_wp2_with fail
    go_ret
    exact ⟨rfl, Hb2.out.trans (Hb3.out.mono Hb2.out.size)⟩

theorem mrIs_ge2 {n : Nat} (h : mrIs n = true) : 2 ≤ n ∧ n < 9223372036854775808 := by
  unfold mrIs at h
  by_cases h2 : n < 2 ∨ 9223372036854775808 ≤ n
  · rw [if_pos h2] at h; cases h
  · omega

/-- The law. -/
theorem islaw_any (n : Nat) (w : World) (_hn : n < 18446744073709551616) (hT : Hid (TabAt w)) :
    Calls Tryd.prog 3 #[.int .u64 n] w fun e w' => e = .returned (.bool true) ∧ Below w.heap.size w w' := by
  by_cases h : 9223372036854775808 ≤ n
  · refine islaw_big n w hT (decide_eq_true (by omega)) (Lib.hid ?_)
    unfold mrIs
    rw [if_pos (.inr h)]
  · have hm : n % 4294967296 < 4294967296 := Nat.mod_lt _ (by decide)
    refine islaw_in n (n % 4294967296) w (mrIs (n % 4294967296)) (mrIs n) hT (decide_eq_false (by omega)) (Int.natCast_emod _ _).symm (Lib.hid fun w hw => is_any _ w hw)
      (Lib.hid fun w => ris_any _ _ w (by omega) (mrIs_right _ (by omega))) (Lib.hid fun w hw => is_any _ w hw) fun h2 => decide_eq_true (by have := (mrIs_ge2 h2).1; omega)
end Go.Proofs.YtpphfeinmmmckaaDoor
