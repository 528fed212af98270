/-
  PrimeNext: the walk of the reference's Next, and the law's.
-/
import Derived.Test.YtpphfeinmmmckaaDoorIsLaw
import Derived.Test.YtpphfeinmmmckaaDoorLucas
namespace Go.Proofs.YtpphfeinmmmckaaDoor
open Go.RowKit

def RNextRel (N P : Nat) (w : World) (g : Nat) (t0 : Value) (wr : World) : Prop :=
  ∃ n : Nat, t0 = .int .u64 n ∧ N < n ∧ n + g = P ∧ w = wr

set_option maxRecDepth 100000 in
set_option maxHeartbeats 400000 in
theorem rnext_in (N P : Nat) (w : World) (e1 : decide ((4611686018427387904 : Int) < (N : Int)) = false) (eN : IntKind.u64.wrap ((N : Int) + 1) = (N : Int) + 1)
    (hNP : N < P) (hP : Hid (P < 9223372036854775808)) (hyes : Hid (Nt.Prime P)) (hno : Hid (∀ k, N < k → k < P → ¬ Nt.Prime k)) :
    Calls Tryd.prog 18 #[.int .u64 N] w fun e w' => e = .returned (.tuple #[.int .u64 (P : Int), .int .i64 0]) ∧ w = w' := by
  go_enter Tryd.func18, Tryd.ntmps18
  go_wp2_with fail
  clear eN
  go_loopg [0] (P - (N + 1)) (fun g t0 wr => RNextRel N P w g t0 wr)
  case atStart => exact ⟨N + 1, by go_num, by omega, by omega, rfl⟩
  case round =>
    obtain ⟨n, rfl, hn, hg, rfl⟩ := hrel
    by_cases hp : n = P
    · have c15 := ris_any n true w (by have := hP.out; omega) ⟨fun _ => hp ▸ hyes.out, fun _ => rfl⟩
      have C15 := Lib.hid c15; clear c15
      have Hp := Lib.hid hp; clear hp
      go_wp2_with fail
      refine C15.out.mono ?_
      rintro e w1 ⟨rfl, rfl⟩
      go_wp2_with fail
      go_ret2
      refine ⟨?_, rfl⟩
      show Ending.returned (.tuple #[.int .u64 (n : Int), .int .i64 0]) = _
      rw [Hp.out]
    · have c15 := ris_any n false w (by have := hP.out; omega) ⟨fun h => (by cases h), fun h => absurd h (hno.out n hn (by omega))⟩
      have C15 := Lib.hid c15; clear c15
      have eN : IntKind.u64.wrap ((n : Int) + 1) = (n : Int) + 1 := by rw [IntKind.wrap_u64]; have := hP.out; omega
      go_wp2_with fail
      refine C15.out.mono ?_
      rintro e w1 ⟨rfl, rfl⟩
      go_wp2_with fail
      go_roundg (gk - 1)
      case rel => exact ⟨n + 1, by go_num, by omega, by omega, rfl⟩
      case measure => omega

/-- The least number above that passes. -/
theorem least_above (N Q : Nat) (h : N < Q) (hQ : mrIs Q = true) : ∃ P, N < P ∧ P ≤ Q ∧ mrIs P = true ∧ ∀ k, N < k → k < P → mrIs k = false := by
  induction Q using Nat.strongRecOn with
  | _ Q ih =>
    by_cases hex : ∃ k, N < k ∧ k < Q ∧ mrIs k = true
    · obtain ⟨k, h1, h2, h3⟩ := hex
      obtain ⟨P, a, b, c, d⟩ := ih k h2 h1 h3
      exact ⟨P, a, by omega, c, d⟩
    · refine ⟨Q, h, Nat.le_refl _, hQ, fun k h1 h2 => ?_⟩
      rcases hk : mrIs k with _ | _
      · rfl
      · exact absurd ⟨k, h1, h2, hk⟩ hex

theorem prime_above : Nt.Prime 4294967311 := by
  refine (Nt.prime_iff _).2 ⟨by decide, fun d h1 h2 h3 => ?_⟩
  have hd : d < 65537 := by
    rcases Nat.lt_or_ge d 65537 with h | h
    · exact h
    · have := Nat.mul_le_mul h h; omega
  have key : allFrom (fun d => !(Nat.beq (Nat.mod 4294967311 d) 0)) 2 65535 = true := by decide +kernel
  have := allFrom_spec key (d - 2) (by omega)
  rw [show 2 + (d - 2) = d by omega, show Nat.mod 4294967311 d = 0 from h3] at this
  cases this

set_option maxRecDepth 100000 in
set_option maxHeartbeats 800000 in
theorem nextlaw_far (n a m P : Nat) (w : World) (hT : Hid (TabAt w)) (em : (n : Int) % 4294967296 = (m : Int)) (e1 : decide ((4611686018427387904 : Int) < (n : Int)) = true)
    (c17 : Hid (∀ w, TabAt w → Calls Tryd.prog 17 #[.int .u64 m] w fun e w' => e = .returned (.tuple #[.int .u64 (P : Int), .int .i64 0]) ∧ Below w.heap.size w w'))
    (c18 : Hid (∀ w, Calls Tryd.prog 18 #[.int .u64 m] w fun e w' => e = .returned (.tuple #[.int .u64 (P : Int), .int .i64 0]) ∧ w = w'))
    (c17n : Hid (∀ w, Calls Tryd.prog 17 #[.int .u64 n] w fun e w' => e = .returned (.tuple #[.int .u64 0, .int .i64 2]) ∧ w = w')) :
    Calls Tryd.prog 6 #[.int .u64 n, .int .u64 a] w fun e w' => e = .returned (.bool true) ∧ Below w.heap.size w w' := by
  have c13 := Lib.hid (alive_any w hT)
  go_enter Tryd.func6, Tryd.ntmps6
  go_wp2_with fail
  refine c13.out.mono ?_
  rintro e w1 ⟨rfl, hb⟩
  have Hb := Lib.hid hb; clear hb
  go_wp2_with fail
  refine (c17.out _ (tab_below hT.out Hb.out)).mono ?_
  rintro e w2 ⟨rfl, hb2⟩
  have hbb := Hb.out.trans (hb2.mono Hb.out.size)
  have Hb2 := Lib.hid hbb; clear hb2 hbb
  go_wp2_with fail
  refine (c18.out _).mono ?_
  rintro e w' ⟨rfl, rfl⟩
  go_wp2_with fail
  refine (c17n.out _).mono ?_
  rintro e w' ⟨rfl, rfl⟩
  go_wp2_with fail
  go_ret
  exact ⟨rfl, Hb2.out⟩

set_option maxRecDepth 100000 in
set_option maxHeartbeats 800000 in
theorem nextlaw_in (n a m P X r k : Nat) (b : Bool) (w : World) (hT : Hid (TabAt w)) (em : (n : Int) % 4294967296 = (m : Int)) (e1 : decide ((4611686018427387904 : Int) < (n : Int)) = false)
    (c17 : Hid (∀ w, TabAt w → Calls Tryd.prog 17 #[.int .u64 m] w fun e w' => e = .returned (.tuple #[.int .u64 (P : Int), .int .i64 0]) ∧ Below w.heap.size w w'))
    (c18 : Hid (∀ w, Calls Tryd.prog 18 #[.int .u64 m] w fun e w' => e = .returned (.tuple #[.int .u64 (P : Int), .int .i64 0]) ∧ w = w'))
    (c17n : Hid (∀ w, TabAt w → Calls Tryd.prog 17 #[.int .u64 n] w fun e w' => e = .returned (.tuple #[.int .u64 (X : Int), .int .i64 0]) ∧ Below w.heap.size w w'))
    (hX : n < X) (c14 : Hid (∀ w, TabAt w → Calls Tryd.prog 14 #[.int .u64 X] w fun e w' => e = .returned (.bool true) ∧ Below w.heap.size w w'))
    (eX : IntKind.u64.wrap ((X : Int) - (n : Int)) = (r : Int)) (hr : 1 ≤ r) (ek : IntKind.u64.wrap ((n : Int) + (a : Int) % (r : Int)) = (k : Int)) (hb : ((k : Int) == (n : Int)) = b)
    (c14k : Hid (b = false → ∀ w, TabAt w → Calls Tryd.prog 14 #[.int .u64 k] w fun e w' => e = .returned (.bool false) ∧ Below w.heap.size w w')) :
    Calls Tryd.prog 6 #[.int .u64 n, .int .u64 a] w fun e w' => e = .returned (.bool true) ∧ Below w.heap.size w w' := by
  have c13 := Lib.hid (alive_any w hT)
  have hr0 : (r : Int) ≠ 0 := by omega
  go_enter Tryd.func6, Tryd.ntmps6
  go_wp2_with fail
  refine c13.out.mono ?_
  rintro e w1 ⟨rfl, hb⟩
  have Hb := Lib.hid hb; clear hb
  go_wp2_with fail
  refine (c17.out _ (tab_below hT.out Hb.out)).mono ?_
  rintro e w2 ⟨rfl, hb2⟩
  have hbb := Hb.out.trans (hb2.mono Hb.out.size)
  have Hb2 := Lib.hid hbb; clear hb2 hbb
  go_wp2_with fail
  refine (c18.out _).mono ?_
  rintro e w' ⟨rfl, rfl⟩
  go_wp2_with fail
  refine (c17n.out _ (tab_below hT.out Hb2.out)).mono ?_
  rintro e w3 ⟨rfl, hb3⟩
  have hbb := Hb2.out.trans (hb3.mono Hb2.out.size)
  have Hb3 := Lib.hid hbb; clear hb3 hbb
  go_wp2_with fail
  refine (c14.out _ (tab_below hT.out Hb3.out)).mono ?_
  rintro e w4 ⟨rfl, hb4⟩
  have hbb := Hb3.out.trans (hb4.mono Hb3.out.size)
  have Hb4 := Lib.hid hbb; clear hb4 hbb
  cases b
  · have c14k' := Lib.hid (c14k.out rfl)
    go_wp2_with fail
    refine (c14k'.out _ (tab_below hT.out Hb4.out)).mono ?_
    rintro e w5 ⟨rfl, hb5⟩
    have hbb := Hb4.out.trans (hb5.mono Hb4.out.size)
    have Hb5 := Lib.hid hbb; clear hb5 hbb
    go_wp2_with fail
    go_ret
    exact ⟨rfl, Hb5.out⟩
  · go_wp2_with fail
    go_ret
    exact ⟨rfl, Hb4.out⟩

/-- The law. -/
theorem nextlaw_any (n a : Nat) (w : World) (hn : n < 18446744073709551616) (_ha : a < 18446744073709551616) (hT : Hid (TabAt w)) :
    Calls Tryd.prog 6 #[.int .u64 n, .int .u64 a] w fun e w' => e = .returned (.bool true) ∧ Below w.heap.size w w' := by
  obtain ⟨m, hm⟩ : ∃ m, m = n % 4294967296 := ⟨_, rfl⟩
  have hml : m < 4294967296 := hm ▸ Nat.mod_lt _ (by decide)
  have em : (n : Int) % 4294967296 = (m : Int) := by rw [hm, Int.natCast_emod]; rfl
  obtain ⟨P, p1, p2, p3, p4⟩ := least_above m 4294967311 (by omega) ((mrIs_right _ (by decide)).2 prime_above)
  have wr : ∀ x : Nat, x < 18446744073709551615 → IntKind.u64.wrap ((x : Int) + 1) = (x : Int) + 1 := fun x hx => by rw [IntKind.wrap_u64]; omega
  have c17 : Hid (∀ w, TabAt w → Calls Tryd.prog 17 #[.int .u64 m] w fun e w' => e = .returned (.tuple #[.int .u64 (P : Int), .int .i64 0]) ∧ Below w.heap.size w w') :=
    Lib.hid fun w hw => next_in m P w (Lib.hid hw) (decide_eq_false (by omega)) (wr m (by omega)) p1 (Lib.hid (by omega)) (Lib.hid p3) (Lib.hid p4)
  have c18 : Hid (∀ w, Calls Tryd.prog 18 #[.int .u64 m] w fun e w' => e = .returned (.tuple #[.int .u64 (P : Int), .int .i64 0]) ∧ w = w') :=
    Lib.hid fun w => rnext_in m P w (decide_eq_false (by omega)) (wr m (by omega)) p1 (Lib.hid (by omega)) (Lib.hid ((mrIs_right P (by omega)).1 p3)) (Lib.hid fun k h1 h2 h3 => by
      have h4 := p4 k h1 h2
      rw [(mrIs_right k (by omega)).2 h3] at h4
      cases h4)
  clear p1 p2 p3 p4
  by_cases hf : 4611686018427387904 < n
  · exact nextlaw_far n a m P w hT em (decide_eq_true (by omega)) c17 c18 (Lib.hid fun w => next_far n w (decide_eq_true (by omega)))
  · obtain ⟨X, x1, x2, x3, x4⟩ := least_above n 6566248256706183169 (by omega) (mrIs_prime Nt.great_prime (by decide))
    have hr := Nat.mod_lt a (show 0 < X - n by omega)
    have hXl : X < 9223372036854775808 := by omega
    refine nextlaw_in n a m P X (X - n) (n + a % (X - n)) _ w hT em (decide_eq_false (by omega)) c17 c18 (Lib.hid fun w hw => next_in n X w (Lib.hid hw) (decide_eq_false (by omega)) (wr n (by omega)) x1 (Lib.hid (by omega)) (Lib.hid x3) (Lib.hid x4)) x1 (Lib.hid fun w hw => x3 ▸ is_any X w hw)
      ?_ (by omega) ?_ rfl (Lib.hid fun hb w hw => ?_)
    · rw [IntKind.wrap_u64]; omega
    · rw [← Int.natCast_emod, IntKind.wrap_u64]; omega
    · have hne : n + a % (X - n) ≠ n := by
        rw [beq_eq_false_iff_ne] at hb
        omega
      have h5 := x4 (n + a % (X - n)) (by omega) (by omega)
      have h6 := is_any (n + a % (X - n)) w hw
      rw [h5] at h6
      exact h6
end Go.Proofs.YtpphfeinmmmckaaDoor
