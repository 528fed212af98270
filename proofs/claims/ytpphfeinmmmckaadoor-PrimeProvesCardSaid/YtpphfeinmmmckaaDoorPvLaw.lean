/-
  PrimeProves: the walk of the law.
-/
import Derived.Test.YtpphfeinmmmckaaDoorPvAny
import Derived.Test.YtpphfeinmmmckaaDoorBigR
import Derived.Test.YtpphfeinmmmckaaDoorRIs
import Derived.Test.YtpphfeinmmmckaaDoorRHolds
import Derived.Test.YtpphfeinmmmckaaDoorShownLaw
namespace Go.Proofs.YtpphfeinmmmckaaDoor
open Go.RowKit

set_option maxRecDepth 100000 in
set_option maxHeartbeats 800000 in
theorem proves_far (n : Nat) (w : World) (hT : Hid (TabAt w)) (h : 1099511627776 < n) :
    Calls Tryd.prog 12 #[.int .u64 n] w fun e w' => e = .returned (.bool true) ∧ Below w.heap.size w w' := by
  have c13 := Lib.hid (alive_any w hT)
  have c26 := Lib.hid fun W => prove_far n W h
  have t1 : decide ((1099511627776 : Int) < (n : Int)) = true := decide_eq_true (by omega)
  clear h
  go_enter Tryd.func12, Tryd.ntmps12
  go_wp2_with fail
  refine c13.out.mono ?_
  rintro e w1 ⟨rfl, hb⟩
  have Hb := Lib.hid hb; clear hb
  go_wp2_with fail
  refine (c26.out _).mono ?_
  rintro e w2 ⟨rfl, hb2⟩
  have Hb2 := Lib.hid (Hb.out.trans (hb2.mono Hb.out.size)); clear hb2
  go_wp2_with fail
  go_ret
  exact ⟨rfl, Hb2.out⟩

set_option maxRecDepth 100000 in
set_option maxHeartbeats 800000 in
theorem proves_not (n : Nat) (w : World) (hT : Hid (TabAt w)) (h : Hid (n ≤ 1099511627776)) (hp : Hid (¬ Nt.Prime n)) :
    Calls Tryd.prog 12 #[.int .u64 n] w fun e w' => e = .returned (.bool true) ∧ Below w.heap.size w w' := by
  have c13 := Lib.hid (alive_any w hT)
  have c26 : Hid (∀ W, TabAt W → Calls Tryd.prog 26 #[.int .u64 n] W fun e w' => e = .returned (.tuple #[.slice none 0 0, .int .i64 6]) ∧ Below W.heap.size W w') := Lib.hid fun W hW =>
    prove_not n W h.out (Lib.hid (by
      have h1 := is_any n W hW
      have h2 : mrIs n = false := by
        rcases hm : mrIs n with _ | _
        · rfl
        · exact absurd ((mrIs_far n h.out).1 hm) hp.out
      rwa [h2] at h1))
  have c15 : Hid (∀ W, Calls Tryd.prog 15 #[.int .u64 n] W fun e w' => e = .returned (.bool false) ∧ W = w') := Lib.hid fun W =>
    ris_any n false W (by have := h.out; omega) ⟨(fun h0 => absurd h0 (by simp)), fun h0 => absurd h0 hp.out⟩
  have t1 : decide ((1099511627776 : Int) < (n : Int)) = false := decide_eq_false (by have := h.out; omega)
  go_enter Tryd.func12, Tryd.ntmps12
  go_wp2_with fail
  refine c13.out.mono ?_
  rintro e w1 ⟨rfl, hb⟩
  have Hb := Lib.hid hb; clear hb
  go_wp2_with fail
  refine (c26.out _ (tab_below hT.out Hb.out)).mono ?_
  rintro e w2 ⟨rfl, hb2⟩
  have Hb2 := Lib.hid (Hb.out.trans (hb2.mono Hb.out.size)); clear hb2
  go_wp2_with fail
  refine (c15.out _).mono ?_
  rintro e w3 ⟨rfl, rfl⟩
  go_wp2_with fail
  go_ret
  exact ⟨rfl, Hb2.out⟩

set_option maxRecDepth 100000 in
set_option maxHeartbeats 800000 in
theorem proves_yes (n : Nat) (w : World) (hT : Hid (TabAt w)) (h : Hid (n ≤ 1099511627776)) (hp : Hid (Nt.Prime n)) :
    Calls Tryd.prog 12 #[.int .u64 n] w fun e w' => e = .returned (.bool true) ∧ Below w.heap.size w w' := by
  have c13 := Lib.hid (alive_any w hT)
  have c26 : Hid (∀ W, TabAt W → Calls Tryd.prog 26 #[.int .u64 n] W (PvPost n W)) := Lib.hid fun W hW =>
    prove_yes n W h.out hp (Lib.hid (by
      have h1 := is_any n W hW
      rwa [(mrIs_far n h.out).2 hp.out] at h1))
  have c15 : Hid (∀ W, Calls Tryd.prog 15 #[.int .u64 n] W fun e w' => e = .returned (.bool true) ∧ W = w') := Lib.hid fun W =>
    ris_any n true W (by have := h.out; omega) ⟨fun _ => hp.out, fun _ => rfl⟩
  have t1 : decide ((1099511627776 : Int) < (n : Int)) = false := decide_eq_false (by have := h.out; omega)
  go_enter Tryd.func12, Tryd.ntmps12
  go_wp2_with fail
  refine c13.out.mono ?_
  rintro e w1 ⟨rfl, hb⟩
  have Hb := Lib.hid hb; clear hb
  go_wp2_with fail
  refine (c26.out _ (tab_below hT.out Hb.out)).mono ?_
  rintro e w2 ⟨a, c, l, rfl, hc, hpp, hh, hb2⟩
  have Hb2 := Lib.hid (Hb.out.trans (hb2.mono Hb.out.size)); clear hb2
  obtain ⟨len, hlen⟩ : ∃ len, len = l.length := ⟨_, rfl⟩
  rw [← hlen] at hc ⊢
  have c24 := Lib.hid (holds_any n len c l a w2 hlen.symm hpp hc)
  have c25 : Hid (∀ W, Below w2.heap.size w2 W → Calls Tryd.prog 25 #[.int .u64 n, .slice a len c] W fun e w' => e = .returned (.bool true) ∧ Below W.heap.size W w') := Lib.hid fun W hW => by
    have := rholds_any n len c l a W hlen.symm (hpp.later hW)
    rwa [hh] at this
  rw [hh] at c24
  have HX := Lib.hid (And.intro hc (And.intro hpp (And.intro hh hlen))); clear hc hpp hh hlen
  go_wp2_with fail
  refine (c15.out _).mono ?_
  rintro e w3 ⟨rfl, rfl⟩
  go_wp2_with fail
  refine c24.out.mono ?_
  rintro e w4 ⟨rfl, hb4⟩
  have Hb4 := Lib.hid hb4; clear hb4
  by_cases hk : 1000 < len
  · have t3 : decide ((1000 : Int) < (len : Int)) = true := decide_eq_true (by omega)
    clear hk
    go_wp2_with fail
    go_ret
    exact ⟨rfl, Hb2.out.trans (Hb4.out.mono Hb2.out.size)⟩
  · have t3 : decide ((1000 : Int) < (len : Int)) = false := decide_eq_false (by omega)
    clear hk
    go_wp2_with fail
    refine (c25.out _ Hb4.out).mono ?_
    rintro e w5 ⟨rfl, hb5⟩
    have Hb5 := Lib.hid hb5; clear hb5
    go_wp2_with fail
    go_ret
    exact ⟨rfl, Hb2.out.trans ((Hb4.out.trans (Hb5.out.mono Hb4.out.size)).mono Hb2.out.size)⟩

theorem proves_law (n : Nat) (w : World) (_ : n < 18446744073709551616) (hT : Hid (TabAt w)) :
    Calls Tryd.prog 12 #[.int .u64 n] w fun e w' => e = .returned (.bool true) ∧ Below w.heap.size w w' := by
  by_cases h : 1099511627776 < n
  · exact proves_far n w hT h
  by_cases hp : Nt.Prime n
  · exact proves_yes n w hT (Lib.hid (by omega)) (Lib.hid hp)
  · exact proves_not n w hT (Lib.hid (by omega)) (Lib.hid hp)
end Go.Proofs.YtpphfeinmmmckaaDoor
