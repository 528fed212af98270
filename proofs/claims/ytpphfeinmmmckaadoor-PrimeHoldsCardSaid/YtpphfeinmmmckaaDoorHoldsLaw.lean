/-
  PrimeHolds: the walk of the law.
-/
import Derived.Test.YtpphfeinmmmckaaDoorRHolds
import Derived.Test.YtpphfeinmmmckaaDoorShownLaw
namespace Go.Proofs.YtpphfeinmmmckaaDoor
open Go.RowKit

set_option maxRecDepth 100000 in
set_option maxHeartbeats 800000 in
theorem holds_law (n len cap : Nat) (l : List StepV) (a : Option Addr) (w : World) (hT : Hid (TabAt w)) (hl : Hid (l.length = len)) (hp : Hid (PaperAt w a l)) (hcap : Hid (len ≤ cap)) (_ : Hid (n < 18446744073709551616)) :
    Calls Tryd.prog 10 #[.int .u64 n, .slice a len cap] w fun e w' => e = .returned (.bool true) ∧ Below w.heap.size w w' := by
  have c13 := Lib.hid (alive_any w hT)
  obtain ⟨hd, hhd⟩ : ∃ z, z = holdsF n l := ⟨_, rfl⟩
  have c24 : Hid (∀ W, Below w.heap.size w W → Calls Tryd.prog 24 #[.int .u64 n, .slice a len cap] W fun e w' => e = .returned (.bool hd) ∧ Below W.heap.size W w') :=
    Lib.hid fun W hW => by rw [hhd]; exact holds_any n len cap l a W hl.out (hp.out.later hW) hcap.out
  have c25 : Hid (∀ W, Below w.heap.size w W → Calls Tryd.prog 25 #[.int .u64 n, .slice a len cap] W fun e w' => e = .returned (.bool hd) ∧ Below W.heap.size W w') :=
    Lib.hid fun W hW => by rw [hhd]; exact rholds_any n len cap l a W hl.out (hp.out.later hW)
  have Hh := Lib.hid hhd; clear hhd
  go_enter Tryd.func10, Tryd.ntmps10
  go_wp2_with fail
  refine c13.out.mono ?_
  rintro e w1 ⟨rfl, hb⟩
  have Hb := Lib.hid hb; clear hb
  by_cases g2 : 20 < len
  · have t2 : decide ((20 : Int) < (len : Int)) = true := decide_eq_true (by omega)
    clear g2
    go_wp2_with fail
    go_ret
    exact ⟨rfl, Hb.out⟩
  have t2 : decide ((20 : Int) < (len : Int)) = false := decide_eq_false (by omega)
  have hp1 := Lib.hid (hp.out.later Hb.out)
  have hlen : Hid (len ≤ 20) := Lib.hid (by omega)
  clear g2
  go_wp2_with fail
  clear t2
  go_loop [5] (fun t5 => ∃ k : Nat, t5 = .int .i64 k ∧ k ≤ len) (fun t5 => len - (intOf t5).toNat)
  case atStart => exact ⟨0, rfl, Nat.zero_le _⟩
  case round =>
    obtain ⟨k, rfl, hk⟩ := hrel
    by_cases hkn : k < len
    · obtain ⟨A, rfl⟩ := hp1.out.at_ (by rw [hl.out]; omega)
      have hs := hp1.out.steps A rfl k (by rw [hl.out]; exact hkn)
      have c2 := hs.c2
      have c3 := hs.c3
      obtain ⟨nq, hnq⟩ : ∃ n, n = (l.getD k default).Q.length := ⟨_, rfl⟩
      obtain ⟨ne, hne⟩ : ∃ n, n = (l.getD k default).E.length := ⟨_, rfl⟩
      rw [← hnq] at c2
      rw [← hne] at c3
      have Hs := Lib.hid (And.intro hs (And.intro hnq hne)); clear hs hnq hne
      have i0 : (0 : Int) ≤ (k : Int) := Int.natCast_nonneg _
      have i1 : (k : Int) < (len : Int) := by omega
      have Hkn := Lib.hid (And.intro (show k + 1 ≤ len from hkn) (show len - ((k : Int) + 1).toNat < len - ((k : Int)).toNat by omega))
      by_cases g3 : 20 < nq
      · have t3 : decide ((20 : Int) < (nq : Int)) = true := decide_eq_true (by omega)
        clear g3
        go_wp2_with fail
        try rw [Exit.noGoto_ret]
        go_ret
        exact ⟨rfl, Hb.out⟩
      have t3 : decide ((20 : Int) < (nq : Int)) = false := decide_eq_false (by omega)
      by_cases g4 : 20 < ne
      · have t4 : decide ((20 : Int) < (ne : Int)) = true := decide_eq_true (by omega)
        clear g3 g4
        go_wp2_with fail
        try rw [Exit.noGoto_ret]
        go_ret
        exact ⟨rfl, Hb.out⟩
      have t4 : decide ((20 : Int) < (ne : Int)) = false := decide_eq_false (by omega)
      clear g3 g4
      have ek : wrap64 ((k : Int) + 1) = (k : Int) + 1 := by have := hlen.out; rw [IntWalk.wrap64_in _ (by omega)]
      go_wp2_with fail
      go_round
      case rel => exact ⟨k + 1, by first | (rw [ek]; rfl) | rfl, Hkn.out.1⟩
      case measure =>
        try rw [ek]
        exact Hkn.out.2
    · obtain rfl : len = k := by omega
      go_wp2_with fail
      refine (c24.out _ Hb.out).mono ?_
      rintro e w2 ⟨rfl, hb2⟩
      have Hb2 := Lib.hid (Hb.out.trans (hb2.mono Hb.out.size)); clear hb2
      go_wp2_with fail
      refine (c25.out _ Hb2.out).mono ?_
      rintro e w3 ⟨rfl, hb3⟩
      have Hb3 := Lib.hid (Hb2.out.trans (hb3.mono Hb2.out.size)); clear hb3
      cases hd with
      | false =>
        go_wp2_with fail
        go_ret
        exact ⟨rfl, Hb3.out⟩
      | true =>
        go_wp2_with fail
        go_ret
        exact ⟨rfl, Hb3.out⟩
end Go.Proofs.YtpphfeinmmmckaaDoor
