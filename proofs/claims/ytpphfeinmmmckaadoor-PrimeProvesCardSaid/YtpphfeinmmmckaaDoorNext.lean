/-
  The walks of prime.Next, of the reference's Is and Next, of Next31, and of alive: alive answers true.
-/
import Derived.Test.YtpphfeinmmmckaaDoorRFactor
namespace Go.Proofs.YtpphfeinmmmckaaDoor
open Go.RowKit

theorem tab_below {w w' : World} (h : TabAt w) (hb : Below w.heap.size w w') : TabAt w' := fun j hj => by
  have := h j hj
  exact (hb.cell (p := ⟨0, j, none⟩) (World.block_lt_of_cell? _ _ this)).trans this

set_option maxRecDepth 100000 in
set_option maxHeartbeats 400000 in
theorem next_far (N : Nat) (w : World) (e1 : decide ((4611686018427387904 : Int) < (N : Int)) = true) :
    Calls Tryd.prog 17 #[.int .u64 N] w fun e w' => e = .returned (.tuple #[.int .u64 0, .int .i64 2]) ∧ w = w' := by
  go_enter Tryd.func17, Tryd.ntmps17
  go_wp2_with fail
  go_ret2
  exact ⟨rfl, rfl⟩

def NextRel (N P : Nat) (w : World) (g : Nat) (t0 : Value) (wr : World) : Prop :=
  ∃ n : Nat, t0 = .int .u64 n ∧ N < n ∧ n + g = P ∧ Below w.heap.size w wr

set_option maxRecDepth 100000 in
set_option maxHeartbeats 400000 in
theorem next_in (N P : Nat) (w : World) (hT : Hid (TabAt w)) (e1 : decide ((4611686018427387904 : Int) < (N : Int)) = false) (eN : IntKind.u64.wrap ((N : Int) + 1) = (N : Int) + 1)
    (hNP : N < P) (hP : Hid (P < 18446744073709551616)) (hyes : Hid (mrIs P = true)) (hno : Hid (∀ k, N < k → k < P → mrIs k = false)) :
    Calls Tryd.prog 17 #[.int .u64 N] w fun e w' => e = .returned (.tuple #[.int .u64 (P : Int), .int .i64 0]) ∧ Below w.heap.size w w' := by
  go_enter Tryd.func17, Tryd.ntmps17
  go_wp2_with fail
  clear eN
  go_loopg [0] (P - (N + 1)) (fun g t0 wr => NextRel N P w g t0 wr)
  case atStart => exact ⟨N + 1, by go_num, by omega, by omega, Below.refl _ _⟩
  case round =>
    obtain ⟨n, rfl, hn, hg, hb⟩ := hrel
    have c14 := is_any n wr (tab_below hT.out hb)
    have Hb := Lib.hid hb; clear hb
    by_cases hp : n = P
    · rw [hp, hyes.out, ← hp] at c14
      have C14 := Lib.hid c14; clear c14
      have Hp := Lib.hid hp; clear hp
      go_wp2_with fail
      refine C14.out.mono ?_
      rintro e w1 ⟨rfl, hb1⟩
      have Hb1 := Lib.hid hb1; clear hb1
      go_wp2_with fail
      go_ret2
      refine ⟨?_, Hb.out.trans (Hb1.out.mono Hb.out.size)⟩
      show Ending.returned (.tuple #[.int .u64 (n : Int), .int .i64 0]) = _
      rw [Hp.out]
    · rw [hno.out n hn (by omega)] at c14
      have C14 := Lib.hid c14; clear c14
      have eN : IntKind.u64.wrap ((n : Int) + 1) = (n : Int) + 1 := by rw [IntKind.wrap_u64]; have := hP.out; omega
      go_wp2_with fail
      refine C14.out.mono ?_
      rintro e w1 ⟨rfl, hb1⟩
      have Hb1 := Lib.hid hb1; clear hb1
      go_wp2_with fail
      go_roundg (gk - 1)
      case rel => exact ⟨n + 1, by go_num, by omega, by omega, Hb.out.trans (Hb1.out.mono Hb.out.size)⟩
      case measure => omega

theorem next7 (w : World) (hT : TabAt w) : Calls Tryd.prog 17 #[.int .u64 7] w fun e w' => e = .returned (.tuple #[.int .u64 11, .int .i64 0]) ∧ Below w.heap.size w w' :=
  next_in 7 11 w (Lib.hid hT) (by decide) (by decide) (by decide) (Lib.hid (by decide)) (Lib.hid (by decide +kernel)) (Lib.hid (by
    intro k h1 h2
    obtain rfl | rfl | rfl : k = 8 ∨ k = 9 ∨ k = 10 := by omega
    all_goals decide +kernel))

theorem facs12 : facs 12 = [(2, 2), (3, 1)] := by decide +kernel

theorem pair_two {B : Nat} {w : World} {v2 v3 : Value} {a b c d : Nat} (h : OwnPair B w v2 v3 [(a, b), (c, d)]) :
    ∃ g2 c2 g3 c3, v2 = .slice (some ⟨g2, 0, none⟩) 2 c2 ∧ v3 = .slice (some ⟨g3, 0, none⟩) 2 c3 ∧ w.cell? ⟨g2, 0, none⟩ = some (.int .u64 a) ∧ w.cell? ⟨g2, 1, none⟩ = some (.int .u64 c) ∧ w.cell? ⟨g3, 0, none⟩ = some (.int .i64 b) ∧ w.cell? ⟨g3, 1, none⟩ = some (.int .i64 d) := by
  have hq := h.q; have he := h.e
  have cq := fun g hg => hq.cells (g := g) hg
  have ce := fun g hg => he.cells (g := g) hg
  rcases hq.2 with ⟨_, h0⟩ | ⟨g2, c2, _, rfl, _⟩
  · simp at h0
  · rcases he.2 with ⟨_, h0⟩ | ⟨g3, c3, _, rfl, _⟩
    · simp at h0
    · have q0 := cq g2 rfl 0 _ rfl; have q1 := cq g2 rfl 1 _ rfl
      have e0 := ce g3 rfl 0 _ rfl; have e1 := ce g3 rfl 1 _ rfl
      simp [Addr.add] at q0 q1 e0 e1
      exact ⟨g2, c2, g3, c3, rfl, rfl, q0, q1, e0, e1⟩

set_option maxRecDepth 100000 in
set_option maxHeartbeats 800000 in
theorem alive_any (w : World) (hT : Hid (TabAt w)) : Calls Tryd.prog 13 #[] w fun e w' => e = .returned (.bool true) ∧ Below w.heap.size w w' := by
  have c19 := Lib.hid (factor_in 12 w (by decide) (by decide) (Lib.hid (by decide)))
  go_enter Tryd.func13, Tryd.ntmps13
  go_wp2_with fail
  refine c19.out.mono ?_
  rintro e w1 ⟨v2, v3, rfl, hp, hb⟩
  rw [facs12] at hp
  obtain ⟨g2, c2, g3, c3, rfl, rfl, q0, q1, e0, e1⟩ := pair_two hp
  clear hp
  have c17 := Lib.hid (next7 w1 (tab_below hT.out hb))
  have Hb := Lib.hid hb; clear hb
  have Hq := Lib.hid (And.intro q0 (And.intro q1 (And.intro e0 e1))); clear q0 q1 e0 e1
  go_wp2_with fail
  refine c17.out.mono ?_
  rintro e w2 ⟨rfl, hb2⟩
  obtain ⟨q0, q1, e0, e1⟩ := Hq.out
  have q0 := (hb2.cell (World.block_lt_of_cell? _ _ q0)).trans q0
  have q1 := (hb2.cell (World.block_lt_of_cell? _ _ q1)).trans q1
  have e0 := (hb2.cell (World.block_lt_of_cell? _ _ e0)).trans e0
  have e1 := (hb2.cell (World.block_lt_of_cell? _ _ e1)).trans e1
  have Hb2 := Lib.hid hb2; clear hb2
  go_wp2_with fail
  go_ret
  exact ⟨rfl, Hb.out.trans (Hb2.out.mono Hb.out.size)⟩
end Go.Proofs.YtpphfeinmmmckaaDoor
