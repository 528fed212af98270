/-
  prime.order: on a step by value.
-/
import Derived.Test.YtpphfeinmmmckaaDoorProduct
namespace Go.Proofs.YtpphfeinmmmckaaDoor
open Go.RowKit

/-- Is G's power to M / q another one than 1, modulo N? -/
def notOne (G M N q : Nat) : Bool := !(G ^ (M / q) % N == 1)

def ordF (G M N : Nat) (Q : List Nat) : Bool := (G ^ M % N == 1) && Q.all (notOne G M N)

theorem all_drop {Q : List Nat} {k n : Nat} (hQ : Q.length = n) (hk : k < n) (f : Nat → Bool) : (Q.drop k).all f = (f (Q.getD k 0) && (Q.drop (k + 1)).all f) := by
  have h1 : Q.drop k = Q.getD k 0 :: Q.drop (k + 1) := by rw [List.drop_eq_getElem_cons (by omega)]; simp [List.getD, show k < Q.length by omega]
  rw [h1, List.all_cons]

def OrdRel (n : Nat) (Q : List Nat) (f : Nat → Bool) (R : Bool) (w : World) (t17 : Value) (wr : World) : Prop := ∃ k m : Nat, t17 = .int .i64 k ∧ k ≤ n ∧ wr = w.drewN m ∧ (Q.drop k).all f = R

set_option maxRecDepth 100000 in
set_option maxHeartbeats 800000 in
theorem order_any (n : Nat) (Q : List Nat) (hQ : Hid (Q.length = n)) (hn : Hid (n ≤ 9223372036854775807)) (N G M : Nat) (hNb : Hid (0 < N ∧ N < 18446744073709551616 ∧ M < 18446744073709551616)) (hN : IntKind.u64.wrap ((N : Int) - 1) = (M : Int)) (a a' : Option Addr) (n' c c' : Nat) (w : World) (hq : Hid (U64s w a Q)) (hpos : Hid (∀ q ∈ Q, 1 ≤ q ∧ q < 18446744073709551616)) :
    Calls Tryd.prog 33 #[.agg #[.int .u64 N, .int .u64 G, .slice a n c, .slice a' n' c']] w fun e w' => e = .returned (.bool (ordF G M N Q)) ∧ Below w.heap.size w w' := by
  obtain ⟨w1, hw1⟩ : ∃ w1, w1 = w.alloc (.cells #[.int .u64 N, .int .u64 G, .slice a n c, .slice a' n' c'] 43) := ⟨_, rfl⟩
  have hb1 : Hid (Below w.heap.size w w1) := Lib.hid (by rw [hw1]; exact (Below.refl _ _).alloc (Nat.le_refl _) _)
  have hq1 := Lib.hid (hq.out.later hb1.out)
  obtain ⟨P, hP⟩ : ∃ P, P = G ^ M % N := ⟨_, rfl⟩
  have cP : Hid (∀ w, Calls Tryd.prog 28 #[.int .u64 G, .int .u64 M, .int .u64 N] w fun e w' => e = .returned (.int .u64 (P : Int)) ∧ ∃ k, w' = w.drewN k) := Lib.hid fun w => by rw [hP]; exact power_any G M N w hNb.out.1 hNb.out.2.1 hNb.out.2.2
  obtain ⟨f, hf⟩ : ∃ f, f = notOne G M N := ⟨_, rfl⟩
  have hord : ordF G M N Q = ((P == 1) && Q.all f) := by rw [hP, hf]; rfl
  have cQ : Hid (∀ q, q ∈ Q → ∃ R : Nat, f q = !(R == 1) ∧ ∀ w, Calls Tryd.prog 28 #[.int .u64 G, .int .u64 (M / q : Nat), .int .u64 N] w fun e w' => e = .returned (.int .u64 (R : Int)) ∧ ∃ k, w' = w.drewN k) :=
    Lib.hid fun q _ => ⟨G ^ (M / q) % N, by rw [hf]; rfl, fun w => power_any G (M / q) N w hNb.out.1 hNb.out.2.1 (Nat.lt_of_le_of_lt (Nat.div_le_self _ _) hNb.out.2.2)⟩
  rw [hord]
  have hP1 : ((P : Int) == 1) = (P == 1) := by rw [Bool.eq_iff_iff, beq_iff_eq, beq_iff_eq]; omega
  have HP := Lib.hid (And.intro hP (And.intro hf hord)); clear hP hf hord
  go_enter Tryd.func33, Tryd.ntmps33
  go_wp2_with fail
  rw [← hw1]
  have h0 : w1.cell? ⟨w.heap.size, 0, none⟩ = some (.int .u64 N) := by rw [hw1]; exact World.cell?_alloc_at _ _ _ _ rfl
  have h1 : w1.cell? ⟨w.heap.size, 1, none⟩ = some (.int .u64 G) := by rw [hw1]; exact World.cell?_alloc_at _ _ _ _ rfl
  have h2 : w1.cell? ⟨w.heap.size, 2, none⟩ = some (.slice a n c) := by rw [hw1]; exact World.cell?_alloc_at _ _ _ _ rfl
  have Hw1 := Lib.hid hw1; clear hw1
  refine (cP.out _).mono ?_
  rintro e w2 ⟨rfl, m0, rfl⟩
  cases hb : (P == 1) with
  | false =>
    rw [hb] at hP1
    go_wp2_with fail
    go_ret
    exact ⟨by rw [hb]; rfl, below_drewN hb1.out _⟩
  | true =>
    rw [hb] at hP1
    go_wp2_with fail
    go_loopw [17] (fun t17 wr => OrdRel n Q f (Q.all f) w1 t17 wr) (fun t17 _ => n - (intOf t17).toNat)
    case atStart => exact ⟨0, m0, rfl, Nat.zero_le _, rfl, by rw [List.drop_zero]⟩
    case round =>
      obtain ⟨k, m, rfl, hk, rfl, hR⟩ := hrel
      have HR := Lib.hid hR; clear hR
      by_cases hkn : k < n
      · obtain ⟨b, rfl⟩ := hq1.out.at_ (by rw [hQ.out]; omega)
        have q1 := hq1.out.cells b rfl k (by rw [hQ.out]; exact hkn)
        have hst := all_drop hQ.out hkn f
        obtain ⟨q, hqq⟩ : ∃ q, q = Q.getD k 0 := ⟨_, rfl⟩
        have hmem : q ∈ Q := by
          have hkl : k < Q.length := by rw [hQ.out]; exact hkn
          have : Q.getD k 0 = Q[k] := by simp [List.getD, hkl]
          rw [hqq, this]; exact List.getElem_mem hkl
        rw [← hqq] at q1 hst
        have hqp := (hpos.out q hmem).1
        obtain ⟨R, hfR, cR⟩ := cQ.out q hmem
        obtain ⟨d, hd⟩ : ∃ d, d = M / q := ⟨_, rfl⟩
        rw [← hd] at cR
        have CR := Lib.hid cR; clear cR
        have em : (M : Int) / (q : Int) = (d : Int) := by rw [hd, Int.natCast_ediv]
        have hdb : d < 18446744073709551616 := by rw [hd]; exact Nat.lt_of_le_of_lt (Nat.div_le_self _ _) hNb.out.2.2
        have em' : IntKind.u64.wrap (d : Int) = (d : Int) := IntWalk.u64_in _ (by omega)
        have hq0 : (q : Int) ≠ 0 := by omega
        have hq0' : ¬ q = 0 := by omega
        have hR1 : ((R : Int) == 1) = (R == 1) := by rw [Bool.eq_iff_iff, beq_iff_eq, beq_iff_eq]; omega
        have Hd := Lib.hid (And.intro hd (And.intro hdb (And.intro hqp (And.intro hmem hqq)))); clear hd hdb hqp hmem hqq
        have ek : wrap64 ((k : Int) + 1) = (k : Int) + 1 := by have := hn.out; rw [IntWalk.wrap64_in _ (by omega)]
        have hst2 := hst.symm.trans HR.out
        rw [hfR] at hst2
        have Hst := Lib.hid hst2; clear hst2 hst hfR
        cases hbR : (R == 1) with
        | false =>
          have Hst3 := Lib.hid (show (Q.drop (k + 1)).all f = Q.all f by have := Hst.out; rw [hbR] at this; exact this)
          clear Hst
          rw [hbR] at hR1
          clear hbR
          go_wp2_with fail
          go_quiet ((go_at_call 28; refine (CR.out _).mono ?_; rintro e w3 ⟨he3, m3, hm3⟩; exact ⟨he3, _, by rw [hm3, World.drewN_drewN, Nat.add_assoc]⟩))
          go_wp2_with fail
          go_roundw
          case rel => exact ⟨k + 1, m + nq, by rw [ek]; rfl, by omega, by first | rfl | rw [World.drewN_drewN], Hst3.out⟩
          case measure =>
            rw [ek]
            show n - ((k : Int) + 1).toNat < n - ((k : Int)).toNat
            omega
        | true =>
          have HF := Lib.hid (show false = Q.all f by have := Hst.out; rw [hbR] at this; exact this)
          clear Hst
          rw [hbR] at hR1
          clear hbR
          go_wp2_with fail
          go_quiet ((go_at_call 28; refine (CR.out _).mono ?_; rintro e w3 ⟨he3, m3, hm3⟩; exact ⟨he3, _, by rw [hm3, World.drewN_drewN, Nat.add_assoc]⟩))
          go_wp2_with fail
          go_ret
          exact ⟨by rw [hb, ← HF.out]; rfl, below_drewN (below_drewN hb1.out _) _⟩
      · obtain rfl : n = k := by omega
        have hfin := HR.out
        rw [List.drop_of_length_le (by rw [hQ.out]; omega)] at hfin
        have Hf := Lib.hid (show true = Q.all f from hfin); clear hfin
        go_wp2_with fail
        go_ret
        exact ⟨by rw [hb, ← Hf.out]; rfl, below_drewN hb1.out _⟩
end Go.Proofs.YtpphfeinmmmckaaDoor
