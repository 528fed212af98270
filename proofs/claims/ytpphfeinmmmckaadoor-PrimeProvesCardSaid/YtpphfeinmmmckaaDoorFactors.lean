/-
  PrimeFactors: the law's walk: both Factor functions hand back the same.
-/
import Derived.Test.YtpphfeinmmmckaaDoorNext
namespace Go.Proofs.YtpphfeinmmmckaaDoor
open Go.RowKit

/-- A row of the call's own, as a slice value; its cells. -/
theorem row_form {w : World} {B e n : Nat} {v : Value} {xs : List Value} (h : w.ownsRow B e 1 v n xs) (hn : 0 < n) :
    ∃ g c, v = .slice (some ⟨g, 0, none⟩) n c ∧ B ≤ g ∧ g < w.heap.size ∧ ∀ j u, xs[j]? = some u → w.cell? ⟨g, j, none⟩ = some u := by
  have hc := fun g hg => h.cells (g := g) hg
  have hl := h.lt
  rcases h.2 with ⟨_, h0⟩ | ⟨g, cap, cur, rfl, hb, _⟩
  · omega
  · refine ⟨g, cap, rfl, hb, (hl g rfl).2, fun j u hu => ?_⟩
    have := hc g rfl j u hu
    rw [show (⟨g, 0, none⟩ : Addr).add j = ⟨g, j, none⟩ by unfold Addr.add; split <;> simp_all] at this
    exact this

theorem row_form0 {w : World} {B e : Nat} {v : Value} {xs : List Value} (h : w.ownsRow B e 1 v 0 xs) : ∃ a c, v = .slice a 0 c := by
  rcases h.2 with ⟨rfl, _⟩ | ⟨g, cap, cur, rfl, _⟩
  · exact ⟨_, _, rfl⟩
  · exact ⟨_, _, rfl⟩

set_option maxRecDepth 100000 in
set_option maxHeartbeats 400000 in
theorem factors_none (N : Nat) (z : Int) (w : World) (hT : Hid (TabAt w))
    (c19 : Hid (∀ w, Calls Tryd.prog 19 #[.int .u64 N] w fun e w' => ∃ a c a' c', e = .returned (.tuple #[.slice a 0 c, .slice a' 0 c', .int .i64 z]) ∧ Below w.heap.size w w'))
    (c20 : Hid (∀ w, Calls Tryd.prog 20 #[.int .u64 N] w fun e w' => ∃ a c a' c', e = .returned (.tuple #[.slice a 0 c, .slice a' 0 c', .int .i64 z]) ∧ Below w.heap.size w w')) :
    Calls Tryd.prog 7 #[.int .u64 N] w fun e w' => e = .returned (.bool true) ∧ Below w.heap.size w w' := by
  have c13 := Lib.hid (alive_any w hT)
  go_enter Tryd.func7, Tryd.ntmps7
  go_wp2_with fail
  refine c13.out.mono ?_
  rintro e w1 ⟨rfl, hb⟩
  have Hb := Lib.hid hb; clear hb
  go_wp2_with fail
  refine (c19.out _).mono ?_
  rintro e w2 ⟨a, c, a', c', rfl, hb2⟩
  have Hb2 := Lib.hid hb2; clear hb2
  go_wp2_with fail
  refine (c20.out _).mono ?_
  rintro e w3 ⟨b, d, b', d', rfl, hb3⟩
  have Hb3 := Lib.hid hb3; clear hb3
  go_wp2_with fail
  refine wp_loop_rounds 1 ?_
  rw [rounds_succ]
  go_wp2_with fail
  go_ret
  exact ⟨rfl, (Hb.out.trans (Hb2.out.mono Hb.out.size)).trans (Hb3.out.mono (Nat.le_trans Hb.out.size Hb2.out.size))⟩

/-- The cells of a slice of n primes, or numbers. -/
def CellsAre (w : World) (g n : Nat) (k : IntKind) (f : Nat → Nat) : Prop := ∀ j, j < n → w.cell? ⟨g, j, none⟩ = some (.int k ((f j : Nat) : Int))

def FactorsRel (n : Nat) (w : World) (t9 : Value) (wr : World) : Prop := ∃ k m : Nat, t9 = .int .i64 k ∧ k ≤ n ∧ wr = w.drewN m

set_option maxRecDepth 100000 in
set_option maxHeartbeats 800000 in
theorem factors_some (N n : Nat) (hn : (n : Int) ≤ 1048577) (fq fe : Nat → Nat) (w : World) (hT : Hid (TabAt w))
    (c19 : Hid (∀ w, Calls Tryd.prog 19 #[.int .u64 N] w fun e w' => ∃ g c g' c', e = .returned (.tuple #[.slice (some ⟨g, 0, none⟩) n c, .slice (some ⟨g', 0, none⟩) n c', .int .i64 0]) ∧ CellsAre w' g n .u64 fq ∧ CellsAre w' g' n .i64 fe ∧ g < w'.heap.size ∧ g' < w'.heap.size ∧ Below w.heap.size w w'))
    (c20 : Hid (∀ w, Calls Tryd.prog 20 #[.int .u64 N] w fun e w' => ∃ g c g' c', e = .returned (.tuple #[.slice (some ⟨g, 0, none⟩) n c, .slice (some ⟨g', 0, none⟩) n c', .int .i64 0]) ∧ CellsAre w' g n .u64 fq ∧ CellsAre w' g' n .i64 fe ∧ g < w'.heap.size ∧ g' < w'.heap.size ∧ Below w.heap.size w w')) :
    Calls Tryd.prog 7 #[.int .u64 N] w fun e w' => e = .returned (.bool true) ∧ Below w.heap.size w w' := by
  have c13 := Lib.hid (alive_any w hT)
  go_enter Tryd.func7, Tryd.ntmps7
  go_wp2_with fail
  refine c13.out.mono ?_
  rintro e w1 ⟨rfl, hb⟩
  have Hb := Lib.hid hb; clear hb
  go_wp2_with fail
  refine (c19.out _).mono ?_
  rintro e w2 ⟨g, c, g', c', rfl, hq, he, hg, hg', hb2⟩
  have Hq := Lib.hid hq; clear hq
  have He := Lib.hid he; clear he
  have Hg := Lib.hid (And.intro hg hg'); clear hg hg'
  have Hb2 := Lib.hid hb2; clear hb2
  go_wp2_with fail
  refine (c20.out _).mono ?_
  rintro e w3 ⟨r, d, r', d', rfl, hx, hy, _, _, hb3⟩
  have Hx := Lib.hid hx; clear hx
  have Hy := Lib.hid hy; clear hy
  have Hq3 : Hid (CellsAre w3 g n .u64 fq) := Lib.hid fun j hj => (hb3.cell (p := ⟨g, j, none⟩) Hg.out.1).trans (Hq.out j hj)
  have He3 : Hid (CellsAre w3 g' n .i64 fe) := Lib.hid fun j hj => (hb3.cell (p := ⟨g', j, none⟩) Hg.out.2).trans (He.out j hj)
  have Hb3 := Lib.hid hb3; clear hb3
  go_wp2_with fail
  go_loopw [9] (fun t9 wr => FactorsRel n w3 t9 wr) (fun t9 _ => n - (intOf t9).toNat)
  case atStart => exact ⟨0, 0, rfl, Nat.zero_le _, rfl⟩
  case round =>
    obtain ⟨k, m, rfl, hk, rfl⟩ := hrel
    by_cases hkn : k < n
    · have q1 := Hq3.out k hkn
      have e1 := He3.out k hkn
      have x1 := Hx.out k hkn
      have y1 := Hy.out k hkn
      obtain ⟨a, ha⟩ : ∃ a, a = fq k := ⟨_, rfl⟩
      obtain ⟨b, hb⟩ : ∃ b, b = fe k := ⟨_, rfl⟩
      rw [← ha] at q1 x1
      rw [← hb] at e1 y1
      clear ha hb
      go_wp2_with fail
      go_quiet (fail)
      go_wp2_with fail
      go_roundw
      case rel => exact ⟨k + 1, _, by go_num, by omega, rfl⟩
      case measure => simp [intOf]; omega
    · obtain rfl : k = n := by omega
      go_wp2_with fail
      go_ret
      exact ⟨rfl, below_drewN ((Hb.out.trans (Hb2.out.mono Hb.out.size)).trans (Hb3.out.mono (Nat.le_trans Hb.out.size Hb2.out.size))) _⟩

theorem facs_len (n : Nat) : (facs n).length ≤ 1048577 := by
  have : ∀ (f n p : Nat), (facLoop f n p).length ≤ f := by
    intro f
    induction f with
    | zero => intro n p; simp [facLoop]
    | succ f ih =>
      intro n p
      by_cases h : n ≤ 1
      · rw [facLoop, if_pos h]; simp
      · rw [facLoop_succ h]
        generalize (if n < p * p then n else p) = p'
        split
        · exact Nat.succ_le_succ (ih _ _)
        · exact Nat.le_succ_of_le (ih _ _)
  exact this _ _ _

theorem pair_cells {B : Nat} {w : World} {v2 v3 : Value} {l : List (Nat × Nat)} (h : OwnPair B w v2 v3 l) (hl : 0 < l.length) :
    ∃ g c g' c', v2 = .slice (some ⟨g, 0, none⟩) l.length c ∧ v3 = .slice (some ⟨g', 0, none⟩) l.length c' ∧ CellsAre w g l.length .u64 (fun j => (l.getD j (0, 0)).1) ∧ CellsAre w g' l.length .i64 (fun j => (l.getD j (0, 0)).2) ∧ g < w.heap.size ∧ g' < w.heap.size := by
  obtain ⟨g, c, rfl, _, hg, hq⟩ := row_form h.q hl
  obtain ⟨g', c', rfl, _, hg', he⟩ := row_form h.e hl
  refine ⟨g, c, g', c', rfl, rfl, fun j hj => hq j _ ?_, fun j hj => he j _ ?_, hg, hg'⟩
  · simp [List.getD, hj]
  · simp [List.getD, hj]

/-- The law. -/
theorem factors_any (N : Nat) (w : World) (hN : N < 18446744073709551616) (hT : Hid (TabAt w)) :
    Calls Tryd.prog 7 #[.int .u64 N] w fun e w' => e = .returned (.bool true) ∧ Below w.heap.size w w' := by
  by_cases h0 : N = 0
  · subst h0
    refine factors_none 0 2 w hT (Lib.hid fun w => (factor_lo w).mono ?_) (Lib.hid fun w => (rfactor_lo w).mono ?_)
    · rintro e w' ⟨rfl, rfl⟩; exact ⟨_, _, _, _, rfl, Below.refl _ _⟩
    · rintro e w' ⟨rfl, rfl⟩; exact ⟨_, _, _, _, rfl, Below.refl _ _⟩
  · have e1 : decide ((N : Int) < 1) = false := decide_eq_false (by omega)
    by_cases h1 : 1099511627776 < N
    · have e2 : decide ((1099511627776 : Int) < (N : Int)) = true := decide_eq_true (by omega)
      refine factors_none N 2 w hT (Lib.hid fun w => (factor_hi N w e1 e2).mono ?_) (Lib.hid fun w => (rfactor_hi N w e1 e2).mono ?_)
      · rintro e w' ⟨rfl, rfl⟩; exact ⟨_, _, _, _, rfl, Below.refl _ _⟩
      · rintro e w' ⟨rfl, rfl⟩; exact ⟨_, _, _, _, rfl, Below.refl _ _⟩
    · have e2 : decide ((1099511627776 : Int) < (N : Int)) = false := decide_eq_false (by omega)
      have hb : Hid (1 ≤ N ∧ N ≤ 1099511627776) := Lib.hid (by omega)
      by_cases hl : 0 < (facs N).length
      · refine factors_some N (facs N).length (by have := facs_len N; omega) (fun j => ((facs N).getD j (0, 0)).1) (fun j => ((facs N).getD j (0, 0)).2) w hT (Lib.hid fun w => (factor_in N w e1 e2 hb).mono ?_) (Lib.hid fun w => (rfactor_in N w e1 e2 hb).mono ?_)
        · rintro e w' ⟨v2, v3, rfl, hp, hbl⟩
          obtain ⟨g, c, g', c', rfl, rfl, a, b, d, f⟩ := pair_cells hp hl
          exact ⟨g, c, g', c', rfl, a, b, d, f, hbl⟩
        · rintro e w' ⟨v2, v3, rfl, hp, hbl⟩
          obtain ⟨g, c, g', c', rfl, rfl, a, b, d, f⟩ := pair_cells hp hl
          exact ⟨g, c, g', c', rfl, a, b, d, f, hbl⟩
      · have hnil : facs N = [] := List.eq_nil_of_length_eq_zero (by omega)
        refine factors_none N 0 w hT (Lib.hid fun w => (factor_in N w e1 e2 hb).mono ?_) (Lib.hid fun w => (rfactor_in N w e1 e2 hb).mono ?_)
        · rintro e w' ⟨v2, v3, rfl, hp, hbl⟩
          rw [hnil] at hp
          obtain ⟨a, c, rfl⟩ := row_form0 hp.q
          obtain ⟨a', c', rfl⟩ := row_form0 hp.e
          exact ⟨a, c, a', c', rfl, hbl⟩
        · rintro e w' ⟨v2, v3, rfl, hp, hbl⟩
          rw [hnil] at hp
          obtain ⟨a, c, rfl⟩ := row_form0 hp.q
          obtain ⟨a', c', rfl⟩ := row_form0 hp.e
          exact ⟨a, c, a', c', rfl, hbl⟩
end Go.Proofs.YtpphfeinmmmckaaDoor
