/-
  The reference's step and Holds, on a paper in memory.
-/
import Derived.Test.YtpphfeinmmmckaaDoorRStep
namespace Go.Proofs.YtpphfeinmmmckaaDoor
open Go.RowKit

set_option maxRecDepth 100000 in
set_option maxHeartbeats 800000 in
theorem rstep_any (i len cap : Nat) (l : List StepV) (hl : Hid (l.length = len)) (hi : i < len) (hlen : Hid (len ≤ 9223372036854775807)) (A : Addr) (w : World) (hp : Hid (PaperAt w (some A) l))
    (s : StepV) (hs : Hid (s = l.getD i default)) (hbig : Hid (∀ j, j < i → j < l.length → 2 ≤ (l.getD j default).N)) :
    Calls Tryd.prog 34 #[.slice (some A) len cap, .int .i64 i] w fun e w' => e = .returned (.bool (rstepF l i s)) ∧ Below w.heap.size w w' := by
  have hst := Lib.hid (show StepAt w (A.add (i * 4)) s by rw [hs.out]; exact hp.out.steps A rfl i (by rw [hl.out]; exact hi))
  obtain ⟨N, hN⟩ : ∃ N, N = s.N := ⟨_, rfl⟩
  obtain ⟨G, hG⟩ : ∃ G, G = s.G := ⟨_, rfl⟩
  obtain ⟨nq, hnq⟩ : ∃ n, n = s.Q.length := ⟨_, rfl⟩
  obtain ⟨ne, hne⟩ : ∃ n, n = s.E.length := ⟨_, rfl⟩
  obtain ⟨R, hR⟩ : ∃ R, R = rstepF l i s := ⟨_, rfl⟩
  have hR2 : Hid (R = if N < 3 then false else if 9223372036854775808 ≤ N then false else if G < 1 then false else if N ≤ G then false
    else if nq ≠ ne then false else rLoop (qOk l i s.Q) G (N - 1) N s.Q s.E ne 0 (N - 1)) := Lib.hid (by rw [hR, rstepF, hN, hG, hnq, hne])
  rw [← hR]
  have c0 := hst.out.c0
  have c1 := hst.out.c1
  have c2 := hst.out.c2
  have c3 := hst.out.c3
  rw [← hN] at c0
  rw [← hG] at c1
  rw [← hnq] at c2
  rw [← hne] at c3
  have i0 : (0 : Int) ≤ (i : Int) := Int.natCast_nonneg _
  have i1 : (i : Int) < (len : Int) := by omega
  by_cases g1 : N < 3
  · have t1 : decide ((N : Int) < 3) = true := decide_eq_true (by omega)
    have Hfin := Lib.hid (show R = false by rw [hR2.out, if_pos g1])
    clear g1 hN hG hnq hne hR
    go_enter Tryd.func34, Tryd.ntmps34
    go_wp2_with fail
    go_ret
    exact ⟨by rw [Hfin.out]; rfl, (Below.refl _ _).alloc (Nat.le_refl _) _⟩
  have t1 : decide ((N : Int) < 3) = false := decide_eq_false (by omega)
  by_cases g2 : 9223372036854775808 ≤ N
  · have t2 : decide ((9223372036854775808 : Int) ≤ (N : Int)) = true := decide_eq_true (by omega)
    have Hfin := Lib.hid (show R = false by rw [hR2.out, if_neg g1, if_pos g2])
    clear g1 g2 hN hG hnq hne hR
    go_enter Tryd.func34, Tryd.ntmps34
    go_wp2_with fail
    go_ret
    exact ⟨by rw [Hfin.out]; rfl, (Below.refl _ _).alloc (Nat.le_refl _) _⟩
  have t2 : decide ((9223372036854775808 : Int) ≤ (N : Int)) = false := decide_eq_false (by omega)
  by_cases g3 : G < 1
  · have t3 : decide ((G : Int) < 1) = true := decide_eq_true (by omega)
    have Hfin := Lib.hid (show R = false by rw [hR2.out, if_neg g1, if_neg g2, if_pos g3])
    clear g1 g2 g3 hN hG hnq hne hR
    go_enter Tryd.func34, Tryd.ntmps34
    go_wp2_with fail
    go_ret
    exact ⟨by rw [Hfin.out]; rfl, (Below.refl _ _).alloc (Nat.le_refl _) _⟩
  have t3 : decide ((G : Int) < 1) = false := decide_eq_false (by omega)
  by_cases g4 : N ≤ G
  · have t4 : decide (N ≤ G) = true := decide_eq_true g4
    have Hfin := Lib.hid (show R = false by rw [hR2.out, if_neg g1, if_neg g2, if_neg g3, if_pos g4])
    clear g1 g2 g3 g4 hN hG hnq hne hR
    go_enter Tryd.func34, Tryd.ntmps34
    go_wp2_with fail
    go_ret
    exact ⟨by rw [Hfin.out]; rfl, (Below.refl _ _).alloc (Nat.le_refl _) _⟩
  have t4 : decide (N ≤ G) = false := decide_eq_false g4
  by_cases g5 : nq ≠ ne
  · have t5 : ¬ (nq : Int) = (ne : Int) := by omega
    have Hfin := Lib.hid (show R = false by rw [hR2.out, if_neg g1, if_neg g2, if_neg g3, if_neg g4, if_pos g5])
    clear g1 g2 g3 g4 g5 hN hG hnq hne hR
    go_enter Tryd.func34, Tryd.ntmps34
    go_wp2_with fail
    go_ret
    exact ⟨by rw [Hfin.out]; rfl, (Below.refl _ _).alloc (Nat.le_refl _) _⟩
  have e5 : nq = ne := by omega
  have hfin : R = rLoop (qOk l i s.Q) G (N - 1) N s.Q s.E ne 0 (N - 1) := by rw [hR2.out, if_neg g1, if_neg g2, if_neg g3, if_neg g4, if_neg g5]
  have eN : IntKind.u64.wrap ((N : Int) - 1) = ((N - 1 : Nat) : Int) := by rw [IntWalk.u64_in _ (by omega)]; omega
  have := rstep_core i len cap l hl hi hlen A w hp s hs N G ne (Lib.hid ⟨hN, hG, by omega, hne⟩) (Lib.hid ⟨by omega, by omega⟩) t1 t2 t3 t4 (N - 1) eN (Lib.hid ⟨by omega, by omega⟩) (qOk l i s.Q) (Lib.hid rfl)
    (rLoop (qOk l i s.Q) G (N - 1) N s.Q s.E) (Lib.hid rfl) (Lib.hid fun k _ hk => qOk_two hbig.out hk)
  rw [hfin]
  exact this

/-- What the reference's Holds answers. -/
def RHoldRel (len : Nat) (F : Nat → Bool) (R : Bool) (w : World) (t5 : Value) (wr : World) : Prop := ∃ k : Nat, t5 = .int .i64 k ∧ k ≤ len ∧ Below w.heap.size w wr ∧ ((List.range len).drop k).all F = R ∧ ∀ j, j < k → F j = true

theorem stepOk_big {l : List StepV} {k : Nat} {s : StepV} (h : stepOk l k s = true) : 2 ≤ s.N := by
  rw [stepOk, Bool.and_eq_true] at h
  have := (headOk_true h.1).1
  omega

set_option maxRecDepth 100000 in
set_option maxHeartbeats 800000 in
theorem rholds_some (x len cap : Nat) (l : List StepV) (hl : Hid (l.length = len)) (h0 : 0 < len) (A : Addr) (w : World) (hp : Hid (PaperAt w (some A) l)) (hlen : Hid (len ≤ 9223372036854775807)) :
    Calls Tryd.prog 25 #[.int .u64 x, .slice (some A) len cap] w fun e w' => e = .returned (.bool (((List.range len).all fun k => stepOk l k (l.getD k default)) && (l.getD (len - 1) default).N == x)) ∧ Below w.heap.size w w' := by
  have l0 : ((len : Int) == 0) = false := by rw [beq_eq_false_iff_ne]; omega
  obtain ⟨F, hF⟩ : ∃ F : Nat → Bool, F = fun k => stepOk l k (l.getD k default) := ⟨_, rfl⟩
  rw [← hF]
  have HF := Lib.hid hF; clear hF
  obtain ⟨NL, hNL⟩ : ∃ N, N = (l.getD (len - 1) default).N := ⟨_, rfl⟩
  rw [← hNL]
  have HNL := Lib.hid hNL; clear hNL
  go_enter Tryd.func25, Tryd.ntmps25
  go_wp2_with fail
  clear l0
  go_loopw [5] (fun t5 wr => RHoldRel len F ((List.range len).all F) w t5 wr) (fun t5 _ => len - (intOf t5).toNat)
  case atStart => exact ⟨0, rfl, Nat.zero_le _, Below.refl _ _, by rw [List.drop_zero], fun j hj => absurd hj (by omega)⟩
  case round =>
    obtain ⟨k, rfl, hk, hbel, hR, hall⟩ := hrel
    have Hbel := Lib.hid hbel; clear hbel
    have HR := Lib.hid hR; clear hR
    have Hall := Lib.hid hall; clear hall
    by_cases hkn : k < len
    · have hst := (range_drop hkn F).symm.trans HR.out
      have hbig : Hid (∀ j, j < k → j < l.length → 2 ≤ (l.getD j default).N) := Lib.hid fun j hj _ => by
        have := Hall.out j hj
        rw [HF.out] at this
        exact stepOk_big this
      have cS : Hid (Calls Tryd.prog 34 #[.slice (some A) len cap, .int .i64 k] wr fun e w' => e = .returned (.bool (F k)) ∧ Below wr.heap.size wr w') := Lib.hid (by
        have := rstep_any k len cap l hl hkn hlen A wr (Lib.hid (hp.out.later Hbel.out)) (l.getD k default) (Lib.hid rfl) hbig
        rw [rstep_eq hbig.out] at this
        rw [HF.out]
        exact this)
      obtain ⟨B, hB⟩ : ∃ B, B = F k := ⟨_, rfl⟩
      rw [← hB] at hst cS
      have Hst := Lib.hid hst; clear hst
      have HB := Lib.hid hB; clear hB
      have Hkn := Lib.hid (And.intro (show k + 1 ≤ len from hkn) (show len - ((k : Int) + 1).toNat < len - ((k : Int)).toNat by omega))
      have ek : wrap64 ((k : Int) + 1) = (k : Int) + 1 := by have := hlen.out; rw [IntWalk.wrap64_in _ (by omega)]
      go_wp2_with fail
      refine cS.out.mono ?_
      rintro e w5 ⟨rfl, hb5⟩
      have Hb5 := Lib.hid (Hbel.out.trans (hb5.mono Hbel.out.size)); clear hb5
      cases hBc : B with
      | false =>
        have Hfin := Lib.hid (show false = (List.range len).all F by rw [← Hst.out, hBc]; rfl)
        go_wp2_with fail
        try rw [Exit.noGoto_ret]
        go_ret
        exact ⟨by rw [← Hfin.out]; rfl, Hb5.out⟩
      | true =>
        have Hnext := Lib.hid (show ((List.range len).drop (k + 1)).all F = (List.range len).all F by have := Hst.out; rw [hBc] at this; exact this)
        have Hall2 := Lib.hid (show ∀ j, j < k + 1 → F j = true from fun j hj => by
          by_cases e : j = k
          · rw [e, ← HB.out, hBc]
          · exact Hall.out j (by omega))
        go_wp2_with fail
        go_roundw
        case rel => exact ⟨k + 1, by first | (rw [ek]; rfl) | rfl, Hkn.out.1, Hb5.out, Hnext.out, Hall2.out⟩
        case measure =>
          try rw [ek]
          exact Hkn.out.2
    · obtain rfl : len = k := by omega
      have hs := ((hp.out.steps A rfl (len - 1) (by rw [hl.out]; omega)).later Hbel.out).c0
      rw [← HNL.out] at hs
      obtain ⟨j, hj⟩ : ∃ j, j = len - 1 := ⟨_, rfl⟩
      rw [← hj] at hs
      have i0 : (0 : Int) ≤ (j : Int) := by omega
      have i1 : (j : Int) < (len : Int) := by omega
      have hfin := HR.out
      rw [List.drop_of_length_le (by rw [List.length_range]; omega)] at hfin
      have Hf := Lib.hid (show true = _ from hfin); clear hfin
      have tN : ((NL : Int) == (x : Int)) = (NL == x) := by rw [Bool.eq_iff_iff, beq_iff_eq, beq_iff_eq]; omega
      have ej : IntKind.i64.wrap ((len : Int) - 1) = (j : Int) := by have := hlen.out; rw [IntWalk.i64_in _ (by omega)]; omega
      have HJ := Lib.hid hj; clear hj
      go_wp2_with fail
      go_ret
      refine ⟨?_, Hbel.out⟩
      rw [← Hf.out, ← tN]
      rfl

set_option maxRecDepth 100000 in
theorem rholds_none (x cap : Nat) (a : Option Addr) (w : World) :
    Calls Tryd.prog 25 #[.int .u64 x, .slice a 0 cap] w fun e w' => e = .returned (.bool (x == 2)) ∧ Below w.heap.size w w' := by
  have tx : ((x : Int) == 2) = (x == 2) := by rw [Bool.eq_iff_iff, beq_iff_eq, beq_iff_eq]; omega
  go_enter Tryd.func25, Tryd.ntmps25
  go_wp2_with fail
  go_ret
  refine ⟨?_, Below.refl _ _⟩
  rw [← tx]
  rfl

theorem rholds_any (x len cap : Nat) (l : List StepV) (a : Option Addr) (w : World) (hl : l.length = len) (hp : PaperAt w a l) :
    Calls Tryd.prog 25 #[.int .u64 x, .slice a len cap] w fun e w' => e = .returned (.bool (holdsF x l)) ∧ Below w.heap.size w w' := by
  by_cases h0 : 0 < len
  · obtain ⟨A, rfl⟩ := hp.at_ (by omega)
    have := rholds_some x len cap l (Lib.hid hl) h0 A w (Lib.hid hp) (Lib.hid (by have := hp.len; omega))
    rw [holdsF, if_neg (by omega), hl]
    exact this
  · obtain rfl : len = 0 := by omega
    have := rholds_none x cap a w
    rw [holdsF, if_pos hl]
    exact this
end Go.Proofs.YtpphfeinmmmckaaDoor
