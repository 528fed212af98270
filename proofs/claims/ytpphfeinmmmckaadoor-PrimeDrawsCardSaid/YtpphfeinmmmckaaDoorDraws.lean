/-
  PrimeDraws: the law's walk: seeds and draws of both are one behind the other the same.
-/
import Derived.Test.YtpphfeinmmmckaaDoorNext
namespace Go.Proofs.YtpphfeinmmmckaaDoor
open Go.RowKit

/-- The next seed. -/
def seedOf (s : Nat) : Nat := (s * 6364136223846793005 + 1442695040888963407) % 18446744073709551616

theorem seed_lt (s : Nat) : seedOf s < 18446744073709551616 := Nat.mod_lt _ (by decide)

set_option maxRecDepth 100000 in
set_option maxHeartbeats 400000 in
theorem next31_core (f : Nat) (s t m d : Nat) (w : World) (hf : f = 22 ∨ f = 23)
    (e1 : IntKind.u64.wrap ((s : Int) * 6364136223846793005) = (m : Int)) (e2 : IntKind.u64.wrap ((m : Int) + 1442695040888963407) = (t : Int)) (e3 : (t : Int) / 8589934592 = (d : Int)) (e4 : IntKind.u32.wrap (d : Int) = (d : Int)) :
    Calls Tryd.prog f #[.int .u64 s] w fun e w' => e = .returned (.tuple #[.int .u64 (t : Int), .int .u32 (d : Int)]) ∧ w = w' := by
  rcases hf with rfl | rfl
  · go_enter Tryd.func22, Tryd.ntmps22
    go_wp2_with fail
    go_ret2
    exact ⟨rfl, rfl⟩
  · go_enter Tryd.func23, Tryd.ntmps23
    go_wp2_with fail
    go_ret2
    exact ⟨rfl, rfl⟩

theorem next31_any (f : Nat) (s : Nat) (w : World) (hf : f = 22 ∨ f = 23) :
    Calls Tryd.prog f #[.int .u64 s] w fun e w' => e = .returned (.tuple #[.int .u64 ((seedOf s : Nat) : Int), .int .u32 ((seedOf s / 8589934592 : Nat) : Int)]) ∧ w = w' := by
  have hlt := seed_lt s
  have h2 : seedOf s / 8589934592 < 2147483648 := by omega
  refine next31_core f s (seedOf s) (s * 6364136223846793005 % 18446744073709551616) (seedOf s / 8589934592) w hf ?_ ?_ ?_ ?_
  · rw [IntKind.wrap_u64]; omega
  · rw [IntKind.wrap_u64]; unfold seedOf; omega
  · exact (Int.natCast_ediv _ _).symm
  · rw [show IntKind.u32.wrap (((seedOf s / 8589934592 : Nat) : Int)) = ((seedOf s / 8589934592 : Nat) : Int) % 4294967296 by simp [IntKind.wrap, IntKind.signed, IntKind.bits]]
    omega

def DrawRel (n : Nat) (t5 t6 t7 : Value) : Prop := ∃ x k : Nat, t5 = .int .u64 x ∧ t6 = .int .u64 x ∧ t7 = .int .i64 k ∧ k ≤ n

set_option maxRecDepth 100000 in
set_option maxHeartbeats 400000 in
theorem draws_any (s n : Nat) (w : World) (hn : n ≤ 255) (hT : Hid (TabAt w)) :
    Calls Tryd.prog 9 #[.int .u64 s, .int .u8 n] w fun e w' => e = .returned (.bool true) ∧ Below w.heap.size w w' := by
  have c13 := Lib.hid (alive_any w hT)
  go_enter Tryd.func9, Tryd.ntmps9
  go_wp2_with fail
  refine c13.out.mono ?_
  rintro e w1 ⟨rfl, hb⟩
  have Hb := Lib.hid hb; clear hb
  go_wp2_with fail
  go_loop [5, 6, 7] (fun t5 t6 t7 => DrawRel n t5 t6 t7) (fun _ _ t7 => n - (intOf t7).toNat)
  case atStart => exact ⟨s, 0, rfl, rfl, rfl, by omega⟩
  case round =>
    obtain ⟨x, k, rfl, rfl, rfl, hk⟩ := hrel
    by_cases hkn : k < n
    · obtain ⟨y, hy⟩ : ∃ y, y = seedOf x := ⟨_, rfl⟩
      obtain ⟨d, hd⟩ : ∃ d, d = seedOf x / 8589934592 := ⟨_, rfl⟩
      have c22 := next31_any 22 x w1 (.inl rfl)
      have c23 := next31_any 23 x w1 (.inr rfl)
      rw [← hd, ← hy] at c22 c23
      have hdl : decide ((2147483648 : Int) ≤ (d : Int)) = false := decide_eq_false (by have := seed_lt x; omega)
      have C22 := Lib.hid c22; clear c22
      have C23 := Lib.hid c23; clear c23 hd hy
      go_wp2_with fail
      refine C22.out.mono ?_
      rintro e w' ⟨rfl, rfl⟩
      go_wp2_with fail
      refine C23.out.mono ?_
      rintro e w' ⟨rfl, rfl⟩
      go_wp2_with fail
      go_round
      case rel => exact ⟨y, k + 1, rfl, rfl, by go_num, by omega⟩
      case measure => simp [intOf]; omega
    · obtain rfl : k = n := by omega
      go_wp2_with fail
      go_ret
      exact ⟨rfl, Hb.out⟩
end Go.Proofs.YtpphfeinmmmckaaDoor
