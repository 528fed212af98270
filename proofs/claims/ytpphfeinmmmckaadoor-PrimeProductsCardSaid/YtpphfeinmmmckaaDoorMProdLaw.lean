/-
  PrimeProducts: the law's walk.
-/
import Derived.Test.YtpphfeinmmmckaaDoorMFac
import Derived.Test.YtpphfeinmmmckaaDoorProds
namespace Go.Proofs.YtpphfeinmmmckaaDoor
open Go.RowKit

set_option maxRecDepth 100000 in
set_option maxHeartbeats 400000 in
theorem prodlaw_in (a b x n : Nat) (w : World) (hT : Hid (TabAt w)) (ea : IntKind.u64.wrap (a : Int) = (a : Int)) (eb : IntKind.u64.wrap (b : Int) = (b : Int)) (ex : (a : Int) / 2 = (x : Int))
    (e1 : decide ((x : Int) < 2) = false) (e2 : decide ((b : Int) < 2) = false) (en : IntKind.u64.wrap ((x : Int) * (b : Int)) = (n : Int)) (hm : Hid (mrIs n = false)) :
    Calls Tryd.prog 4 #[.int .u32 a, .int .u32 b] w fun e w' => e = .returned (.bool true) ∧ Below w.heap.size w w' := by
  have c13 := Lib.hid (alive_any w hT)
  have c14 : Hid (∀ w, TabAt w → Calls Tryd.prog 14 #[.int .u64 n] w fun e w' => e = .returned (.bool false) ∧ Below w.heap.size w w') := Lib.hid fun w hw => hm.out ▸ is_any n w hw
  go_enter Tryd.func4, Tryd.ntmps4
  go_wp2_with fail
  refine c13.out.mono ?_
  rintro e w1 ⟨rfl, hb⟩
  have Hb := Lib.hid hb; clear hb
  go_wp2_with fail
  refine (c14.out _ (tab_below hT.out Hb.out)).mono ?_
  rintro e w2 ⟨rfl, hb2⟩
  have Hb2 := Lib.hid hb2; clear hb2
  go_wp2_with fail
  go_ret
  exact ⟨rfl, Hb.out.trans (Hb2.out.mono Hb.out.size)⟩

set_option maxRecDepth 100000 in
set_option maxHeartbeats 400000 in
theorem prodlaw_x (a b x : Nat) (w : World) (hT : Hid (TabAt w)) (ea : IntKind.u64.wrap (a : Int) = (a : Int)) (eb : IntKind.u64.wrap (b : Int) = (b : Int)) (ex : (a : Int) / 2 = (x : Int)) (e1 : decide ((x : Int) < 2) = true) :
    Calls Tryd.prog 4 #[.int .u32 a, .int .u32 b] w fun e w' => e = .returned (.bool true) ∧ Below w.heap.size w w' := by
  have c13 := Lib.hid (alive_any w hT)
  go_enter Tryd.func4, Tryd.ntmps4
  go_wp2_with fail
  refine c13.out.mono ?_
  rintro e w1 ⟨rfl, hb⟩
  have Hb := Lib.hid hb; clear hb
  go_wp2_with fail
  go_ret
  exact ⟨rfl, Hb.out⟩

set_option maxRecDepth 100000 in
set_option maxHeartbeats 400000 in
theorem prodlaw_y (a b x : Nat) (w : World) (hT : Hid (TabAt w)) (ea : IntKind.u64.wrap (a : Int) = (a : Int)) (eb : IntKind.u64.wrap (b : Int) = (b : Int)) (ex : (a : Int) / 2 = (x : Int)) (e1 : decide ((x : Int) < 2) = false) (e2 : decide ((b : Int) < 2) = true) :
    Calls Tryd.prog 4 #[.int .u32 a, .int .u32 b] w fun e w' => e = .returned (.bool true) ∧ Below w.heap.size w w' := by
  have c13 := Lib.hid (alive_any w hT)
  go_enter Tryd.func4, Tryd.ntmps4
  go_wp2_with fail
  refine c13.out.mono ?_
  rintro e w1 ⟨rfl, hb⟩
  have Hb := Lib.hid hb; clear hb
  go_wp2_with fail
  go_ret
  exact ⟨rfl, Hb.out⟩

/-- The law. -/
theorem prodlaw_any (a b : Nat) (w : World) (ha : a < 4294967296) (hb : b < 4294967296) (hT : Hid (TabAt w)) :
    Calls Tryd.prog 4 #[.int .u32 a, .int .u32 b] w fun e w' => e = .returned (.bool true) ∧ Below w.heap.size w w' := by
  have wr : ∀ x : Nat, x < 18446744073709551616 → IntKind.u64.wrap (x : Int) = (x : Int) := fun x hx => by rw [IntKind.wrap_u64]; omega
  have ea := wr a (by omega)
  have eb := wr b (by omega)
  have ex : (a : Int) / 2 = ((a / 2 : Nat) : Int) := (Int.natCast_ediv _ _).symm
  by_cases h1 : a / 2 < 2
  · exact prodlaw_x a b (a / 2) w hT ea eb ex (decide_eq_true (by omega))
  · by_cases h2 : b < 2
    · exact prodlaw_y a b (a / 2) w hT ea eb ex (decide_eq_false (by omega)) (decide_eq_true (by omega))
    · have hlt : a / 2 * b ≤ 2147483647 * 4294967295 := Nat.mul_le_mul (by omega) (by omega)
      refine prodlaw_in a b (a / 2) (a / 2 * b) w hT ea eb ex (decide_eq_false (by omega)) (decide_eq_false (by omega)) ?_ (Lib.hid (mrIs_product _ _ (by omega) (by omega) (by omega) hb))
      rw [← wr (a / 2 * b) (by omega)]
      rw [Int.natCast_mul]
end Go.Proofs.YtpphfeinmmmckaaDoor
