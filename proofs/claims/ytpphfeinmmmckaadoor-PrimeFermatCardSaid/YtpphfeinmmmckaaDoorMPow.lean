/-
  Several texts in one (merge.py): the contracts of Div64, of the powers and of prime.Is; the listed table.
-/
import Derived.Test.YtpphfeinmmmckaaDoorBits
import Derived.WalkSpells
import Derived.WalkLawsBesides
import Derived.Deep.QuietTactic
import Derived.BigQuiet
import Derived.Lib.Hide
import Derived.Deep.DeepCutAuto
import Derived.Deep.CutBlock
import Derived.Lib.ItoaNum
import Derived.Test.YtpphfeinmmmckaaDoorMr
import Derived.Deep.LoopGhost
import Derived.Test.YtpphfeinmmmckaaDoorCards
import Derived.Test.YtpphfeinmmmckaaDoorTie
import Derived.WalkKit
import Derived.ProofKit
import Derived.OpenShut
import Derived.Deep.DeepHandedRow
import Derived.Lib.LaidTab

/- Knuth: Plain arithmetic under the long division of two words by one: no program in sight. -/
namespace Go.Proofs.YtpphfeinmmmckaaDoor.Knuth

theorem lt_of_ge {U D Y q : Nat} (hU : U < Y) (hD : D < 4294967296) (hq : 4294967296 ≤ q) : (U * 4294967296 + D) / Y < q := by
  refine Nat.lt_of_lt_of_le ((Nat.div_lt_iff_lt_mul (by omega)).2 ?_) hq
  have : (U + 1) * 4294967296 ≤ Y * 4294967296 := Nat.mul_le_mul_right _ hU
  rw [Nat.mul_comm 4294967296 Y]
  omega

theorem split {q Y1 Y0 : Nat} : q * (Y1 * 4294967296 + Y0) = q * Y1 * 4294967296 + q * Y0 := by
  rw [Nat.mul_add, Nat.mul_assoc]

theorem lt_of_gt {U D Y Y1 Y0 q r : Nat} (hY : Y = Y1 * 4294967296 + Y0) (hY0 : 0 < Y) (hq : q * Y1 + r = U) (h : 4294967296 * r + D < q * Y0) : (U * 4294967296 + D) / Y < q := by
  refine (Nat.div_lt_iff_lt_mul hY0).2 ?_
  rw [hY, split, ← hq, Nat.add_mul]
  omega

theorem le_of_le {U D Y Y1 Y0 q r : Nat} (hY : Y = Y1 * 4294967296 + Y0) (hY0 : 0 < Y) (hq : q * Y1 + r = U) (h : q * Y0 ≤ 4294967296 * r + D) : q ≤ (U * 4294967296 + D) / Y := by
  refine (Nat.le_div_iff_mul_le hY0).2 ?_
  rw [hY, split, ← hq, Nat.add_mul]
  omega

theorem le_of_big {U D Y Y1 Y0 q r : Nat} (hY : Y = Y1 * 4294967296 + Y0) (hY0 : 0 < Y) (hb : Y0 < 4294967296) (hq : q * Y1 + r = U) (hr : 4294967296 ≤ r) (hq1 : q ≤ 4294967296) : q ≤ (U * 4294967296 + D) / Y := by
  refine le_of_le hY hY0 hq ?_
  have : q * Y0 ≤ 4294967296 * Y0 := Nat.mul_le_mul_right _ hq1
  omega

theorem start_le {U Y Y1 Y0 : Nat} (hY : Y = Y1 * 4294967296 + Y0) (hb : Y0 < 4294967296) (hn : 2147483648 ≤ Y1) (hU : U < Y) : U / Y1 ≤ 4294967297 := by
  have : U / Y1 < 4294967298 := by
    refine (Nat.div_lt_iff_lt_mul (by omega)).2 ?_
    omega
  omega

theorem start_ge {U D Y Y1 Y0 : Nat} (hY : Y = Y1 * 4294967296 + Y0) (hn : 0 < Y1) (hD : D < 4294967296) : (U * 4294967296 + D) / Y ≤ U / Y1 := by
  have hY0 : 0 < Y := by omega
  have h1 : (U * 4294967296 + D) / Y ≤ (U * 4294967296 + D) / (Y1 * 4294967296) := Nat.div_le_div_left (by omega) (by omega)
  rw [Nat.mul_comm Y1, ← Nat.div_div_eq_div_mul] at h1
  have h2 : (U * 4294967296 + D) / 4294967296 = U := by omega
  rw [h2] at h1
  exact h1

theorem core {N y s q R : Nat} (hy : 0 < y) (e4 : N * 2 ^ s = q * y * 2 ^ s + R) (hR : R < y * 2 ^ s) : q = N / y ∧ R / 2 ^ s = N % y := by
  have h2 : 0 < 2 ^ s := Nat.two_pow_pos s
  have hd : 2 ^ s ∣ R := by
    have h5 : 2 ^ s ∣ (q * y) * 2 ^ s + R := e4 ▸ Nat.dvd_mul_left _ _
    exact (Nat.dvd_add_right (Nat.dvd_mul_left _ _)).1 h5
  obtain ⟨r, rfl⟩ := hd
  have e6 : N = q * y + r := by
    have : N * 2 ^ s = (q * y + r) * 2 ^ s := by rw [e4, Nat.add_mul, Nat.mul_comm r]
    exact Nat.eq_of_mul_eq_mul_right h2 this
  have hr : r < y := by
    rw [Nat.mul_comm y] at hR
    exact Nat.lt_of_mul_lt_mul_left hR
  rw [Nat.mul_div_cancel_left _ h2]
  subst e6
  constructor
  · rw [Nat.add_comm, Nat.add_mul_div_right _ _ hy, Nat.div_eq_of_lt hr]; omega
  · rw [Nat.add_comm, Nat.add_mul_mod_self_right, Nat.mod_eq_of_lt hr]

/-- The whole division out of its two steps. -/
theorem join {N y s U L D1 D0 Y q1 V q0 R : Nat} (hy : 0 < y) (hY : Y = y * 2 ^ s)
    (hN : N * 2 ^ s = U * 18446744073709551616 + L) (hL : L = D1 * 4294967296 + D0)
    (e1 : Y * q1 + V = U * 4294967296 + D1) (e2 : Y * q0 + R = V * 4294967296 + D0) (hR : R < Y) :
    q1 * 4294967296 + q0 = N / y ∧ R / 2 ^ s = N % y := by
  refine core hy ?_ (hY ▸ hR)
  rw [Nat.mul_assoc, ← hY, Nat.add_mul, Nat.mul_right_comm, Nat.mul_comm q1 Y, Nat.mul_comm q0 Y, hN, hL]
  generalize Y * q1 = a at *
  generalize Y * q0 = b at *
  omega

/-- The shifted upper word: the two pieces do not overlap. -/
theorem upper {hi lo y s : Nat} (hs : s < 64) (hlo : lo < 18446744073709551616) (hlt : hi < y) (hY : y * 2 ^ s < 18446744073709551616) :
    (hi * 2 ^ s % 18446744073709551616 ||| lo / 2 ^ (64 - s)) < y * 2 ^ s ∧
    (hi * 18446744073709551616 + lo) * 2 ^ s = (hi * 2 ^ s % 18446744073709551616 ||| lo / 2 ^ (64 - s)) * 18446744073709551616 + lo * 2 ^ s % 18446744073709551616 := by
  have h2 : 0 < 2 ^ s := Nat.two_pow_pos s
  have hp : (2 : Nat) ^ (64 - s) * 2 ^ s = 18446744073709551616 := by rw [← Nat.pow_add, Nat.sub_add_cancel (by omega)]
  have h1 : (hi + 1) * 2 ^ s ≤ y * 2 ^ s := Nat.mul_le_mul_right _ hlt
  rw [Nat.add_mul, Nat.one_mul] at h1
  rw [Nat.mod_eq_of_lt (show hi * 2 ^ s < 18446744073709551616 by omega)]
  have h3 : lo / 2 ^ (64 - s) < 2 ^ s := by
    refine (Nat.div_lt_iff_lt_mul (Nat.two_pow_pos _)).2 ?_
    rw [Nat.mul_comm, hp]; exact hlo
  have h4 : (hi * 2 ^ s ||| lo / 2 ^ (64 - s)) = hi * 2 ^ s + lo / 2 ^ (64 - s) := by
    have := Nat.shiftLeft_add_eq_or_of_lt h3 hi
    rw [Nat.shiftLeft_eq] at this
    exact this.symm
  rw [h4]
  refine ⟨by omega, ?_⟩
  have h5 : lo * 2 ^ s / 18446744073709551616 = lo / 2 ^ (64 - s) := by
    rw [← hp, Nat.mul_div_mul_right _ _ h2]
  have h6 := Nat.div_add_mod (lo * 2 ^ s) 18446744073709551616
  rw [h5] at h6
  rw [Nat.add_mul, Nat.mul_right_comm, Nat.add_mul]
  generalize lo / 2 ^ (64 - s) = a at *
  generalize hi * 2 ^ s = b at *
  generalize lo * 2 ^ s = c at *
  omega
end Go.Proofs.YtpphfeinmmmckaaDoor.Knuth

/- Div: The walk of math/bits.Div64 over this seat's translation. -/
namespace Go.Proofs.YtpphfeinmmmckaaDoor
open Go.RowKit

theorem lz64_at (y s : Nat) (hy : y < 18446744073709551616) (h : Lib.bitLen y + s = 64) (w : World) :
    Calls Tryd.prog 40 #[.int .u64 y] w fun e w' => e = .returned (.int .i64 (s : Int)) ∧ w = w' := by
  refine (lz64_any (y : Int) w (by omega) (by omega)).mono ?_
  rintro e w' ⟨rfl, hw⟩
  refine ⟨?_, hw⟩
  rw [Int.toNat_natCast, show (64 - (Lib.bitLen y : Int)) = (s : Int) by omega]

def DivRel (Y1 U Q : Nat) (t15 t16 : Value) : Prop :=
  ∃ q r : Nat, t15 = .int .u64 q ∧ t16 = .int .u64 r ∧ q * Y1 + r = U ∧ Q ≤ q ∧ q ≤ 4294967297 ∧ r < 4294967296

/-- What a round of either loop finds: its tests and numbers, in the walk's spelling. -/
structure DivNum (Y1 Y0 D q r : Nat) (q' r' X Z Z' : Nat) (b1 b2 b3 : Bool) : Prop where
  w1 : decide ((4294967296 : Int) ≤ (q : Int)) = b1
  w2 : IntKind.u64.wrap ((q : Int) * (Y0 : Int)) = (X : Int)
  w3 : IntKind.u64.wrap (4294967296 * (r : Int)) = (Z : Int)
  w4 : IntKind.u64.wrap ((Z : Int) + (D : Int)) = (Z' : Int)
  w5 : decide (Z' < X) = b2
  w6 : IntKind.u64.wrap ((q : Int) - 1) = (q' : Int)
  w7 : IntKind.u64.wrap ((r : Int) + (Y1 : Int)) = (r' : Int)
  w8 : decide ((4294967296 : Int) ≤ (r' : Int)) = b3

/-- What holds of every round: either it is done, or it goes on, or it breaks out, done. -/
def DivRound (Y1 Y0 D U Q : Nat) : Prop :=
  ∀ q r : Nat, q * Y1 + r = U → Q ≤ q → q ≤ 4294967297 → r < 4294967296 → ∃ (q' r' X Z Z' : Nat) (b1 b2 b3 : Bool),
    DivNum Y1 Y0 D q r q' r' X Z Z' b1 b2 b3 ∧ (b1 = false → b2 = false → q = Q) ∧
    ((b1 || b2) = true → b3 = false → DivRel Y1 U Q (.int .u64 q') (.int .u64 r') ∧ q' < q) ∧ ((b1 || b2) = true → b3 = true → q' = Q)

theorem round_ok {U D Y Y1 Y0 : Nat} (hY : Y = Y1 * 4294967296 + Y0) (hb : Y0 < 4294967296) (hn : 2147483648 ≤ Y1) (hY1 : Y1 < 4294967296) (hU : U < Y) (hD : D < 4294967296) :
    DivRound Y1 Y0 D U ((U * 4294967296 + D) / Y) := by
  intro q r hq hQ hq1 hr
  have hYp : 0 < Y := by omega
  have wN : ∀ a : Nat, a < 18446744073709551616 → IntKind.u64.wrap (a : Int) = (a : Int) := fun a ha => by rw [IntKind.wrap_u64]; omega
  have hX : q < 4294967296 → q * Y0 < 18446744073709551616 := fun h => by
    have : q * Y0 ≤ 4294967296 * Y0 := Nat.mul_le_mul_right _ (by omega)
    omega
  have hlt : (4294967296 ≤ q ∨ (q < 4294967296 ∧ 4294967296 * r + D < q * Y0)) → (U * 4294967296 + D) / Y < q := by
    rintro (h | ⟨_, h⟩)
    · exact Knuth.lt_of_ge hU hD h
    · exact Knuth.lt_of_gt hY hYp hq h
  have hb12 : (decide ((4294967296 : Int) ≤ (q : Int)) || decide (4294967296 * r + D < q * Y0 % 18446744073709551616)) = true → (4294967296 ≤ q ∨ (q < 4294967296 ∧ 4294967296 * r + D < q * Y0)) := by
    intro h
    by_cases c : 4294967296 ≤ q
    · exact .inl c
    · refine .inr ⟨by omega, ?_⟩
      have h2 : decide ((4294967296 : Int) ≤ (q : Int)) = false := by simp; omega
      rw [h2, Bool.false_or, decide_eq_true_eq, Nat.mod_eq_of_lt (hX (by omega))] at h
      exact h
  have hstep : ∀ k, q = k + 1 → k * Y1 + (r + Y1) = U := by
    rintro k rfl
    rw [Nat.add_mul, Nat.one_mul] at hq
    omega
  refine ⟨if q = 0 then 18446744073709551615 else q - 1, r + Y1, q * Y0 % 18446744073709551616, 4294967296 * r, 4294967296 * r + D, _, _, _, ⟨rfl, ?_, ?_, ?_, rfl, ?_, ?_, rfl⟩, ?_, ?_, ?_⟩
  · rw [IntKind.wrap_u64, ← Int.natCast_mul]; omega
  · rw [← wN _ (show 4294967296 * r < 18446744073709551616 by omega)]; rfl
  · rw [← wN _ (show 4294967296 * r + D < 18446744073709551616 by omega)]; rfl
  · split
    · subst q; rfl
    · rw [← wN _ (show q - 1 < 18446744073709551616 by omega)]; congr 1; omega
  · rw [← wN _ (show r + Y1 < 18446744073709551616 by omega)]; rfl
  · intro h1 h2
    have c : q < 4294967296 := by
      have : ¬ ((4294967296 : Int) ≤ (q : Int)) := of_decide_eq_false h1
      omega
    rw [decide_eq_false_iff_not, Nat.mod_eq_of_lt (hX c)] at h2
    have := Knuth.le_of_le (D := D) hY hYp hq (by omega)
    omega
  · intro h h3
    have hl := hlt (hb12 h)
    have h0 : q ≠ 0 := Nat.ne_of_gt (Nat.lt_of_le_of_lt (Nat.zero_le _) hl)
    rw [if_neg h0]
    have h4 : r + Y1 < 4294967296 := by simp at h3; omega
    exact ⟨⟨q - 1, r + Y1, rfl, rfl, hstep _ (by omega), by omega, by omega, h4⟩, by omega⟩
  · intro h h3
    have hl := hlt (hb12 h)
    have h0 : q ≠ 0 := Nat.ne_of_gt (Nat.lt_of_le_of_lt (Nat.zero_le _) hl)
    rw [if_neg h0]
    have h4 : 4294967296 ≤ r + Y1 := by simp at h3; omega
    have := Knuth.le_of_big (D := D) hY hYp hb (hstep (q - 1) (by omega)) h4 (by omega)
    omega

set_option maxRecDepth 100000 in
set_option maxHeartbeats 1000000 in
theorem div64_core (hi lo y s Y Y1 Y0 U L D1 D0 A P R Q T1 T2 T3 V A2 P2 R2 Q2 T4 T5 T6 T7 T8 T9 TA : Nat) (w : World) (hlt : hi < y) (h0 : 0 < hi) (hs : s ≤ 63)
    (lz : Hid (∀ w, Calls Tryd.prog 40 #[.int .u64 y] w fun e w' => e = .returned (.int .i64 (s : Int)) ∧ w = w'))
    (eY : IntKind.u64.wrap ((y : Int) * 2 ^ s) = (Y : Int)) (eY1 : (Y : Int) / 4294967296 = (Y1 : Int)) (eY0 : bits .and .u64 (Y : Int) 4294967295 = (Y0 : Int))
    (eU : bits .or .u64 (IntKind.u64.wrap ((hi : Int) * 2 ^ s)) ((lo : Int) / 2 ^ (64 - s)) = (U : Int))
    (eL : IntKind.u64.wrap ((lo : Int) * 2 ^ s) = (L : Int)) (eD1 : (L : Int) / 4294967296 = (D1 : Int)) (eD0 : bits .and .u64 (L : Int) 4294967295 = (D0 : Int))
    (eA : (U : Int) / (Y1 : Int) = (A : Int)) (eA' : IntKind.u64.wrap (A : Int) = (A : Int)) (eP : IntKind.u64.wrap ((A : Int) * (Y1 : Int)) = (P : Int)) (eR : IntKind.u64.wrap ((U : Int) - (P : Int)) = (R : Int))
    (bY1 : 1 ≤ Y1)
    (eT1 : IntKind.u64.wrap ((Q : Int) * (Y : Int)) = (T1 : Int)) (eT2 : IntKind.u64.wrap ((U : Int) * 4294967296) = (T2 : Int)) (eT3 : IntKind.u64.wrap ((T2 : Int) + (D1 : Int)) = (T3 : Int)) (eV : IntKind.u64.wrap ((T3 : Int) - (T1 : Int)) = (V : Int))
    (eA2 : (V : Int) / (Y1 : Int) = (A2 : Int)) (eA2' : IntKind.u64.wrap (A2 : Int) = (A2 : Int)) (eP2 : IntKind.u64.wrap ((A2 : Int) * (Y1 : Int)) = (P2 : Int)) (eR2 : IntKind.u64.wrap ((V : Int) - (P2 : Int)) = (R2 : Int))
    (eT4 : IntKind.u64.wrap ((Q : Int) * 4294967296) = (T4 : Int)) (eT5 : IntKind.u64.wrap ((T4 : Int) + (Q2 : Int)) = (T5 : Int)) (eT6 : IntKind.u64.wrap ((V : Int) * 4294967296) = (T6 : Int)) (eT7 : IntKind.u64.wrap ((T6 : Int) + (D0 : Int)) = (T7 : Int))
    (eT8 : IntKind.u64.wrap ((Q2 : Int) * (Y : Int)) = (T8 : Int)) (eT9 : IntKind.u64.wrap ((T7 : Int) - (T8 : Int)) = (T9 : Int)) (eTA : (T9 : Int) / 2 ^ s = (TA : Int))
    (HA : Hid (DivRel Y1 U Q (.int .u64 A) (.int .u64 R))) (GG : Hid (DivRound Y1 Y0 D1 U Q)) (HA2 : Hid (DivRel Y1 V Q2 (.int .u64 A2) (.int .u64 R2))) (GG2 : Hid (DivRound Y1 Y0 D0 V Q2)) :
    Calls Tryd.prog 39 #[.int .u64 hi, .int .u64 lo, .int .u64 y] w fun e w' => e = .returned (.tuple #[.int .u64 (T5 : Int), .int .u64 (TA : Int)]) ∧ w = w' := by
  go_enter Tryd.func39, Tryd.ntmps39
  go_upto_block 0 with (go_at_call 40; refine (lz.out _).mono ?_; rintro e w' ⟨rfl, rfl⟩)
  go_cut [15, 16] (fun a b wx => a = .int .u64 Q ∧ (∃ z : Nat, b = .int .u64 z) ∧ wx = w)
  case first =>
    clear eY eY1 eY0 eU eL eD1 eD0 eA eP eR eT1 eT2 eT3 eV eA2 eA2' eP2 eR2 eT4 eT5 eT6 eT7 eT8 eT9 eTA
    go_wp2_with fail
    go_loop [15, 16] (fun a b => DivRel Y1 U Q a b) (fun a _ => (intOf a).toNat)
    case atStart => exact HA.out
    case round =>
      obtain ⟨q, r, rfl, rfl, hq, hQ, hq1, hr⟩ := hrel
      obtain ⟨q', r', X, Z, Z', b1, b2, b3, ⟨w1, w2, w3, w4, w5, w6, w7, w8⟩, hdone, hgo1, hgo2⟩ := GG.out q r hq hQ hq1 hr
      have Hdone := Lib.hid hdone; clear hdone
      have Hgo1 := Lib.hid hgo1; clear hgo1
      have Hgo2 := Lib.hid hgo2; clear hgo2
      clear hq hQ hq1 hr
      cases b1 <;> cases b2 <;> cases b3
      · go_wp2
        go_meet
        case rel => exact ⟨by rw [Hdone.out (by simp) (by simp)], ⟨_, rfl⟩, rfl⟩
      · go_wp2
        go_meet
        case rel => exact ⟨by rw [Hdone.out (by simp) (by simp)], ⟨_, rfl⟩, rfl⟩
      · go_wp2
        go_round
        case rel => exact (Hgo1.out (by simp) (by simp)).1
        case measure => have := (Hgo1.out (by simp) (by simp)).2; simpa [intOf] using this
      · go_wp2
        go_meet
        case rel => exact ⟨by rw [Hgo2.out (by simp) (by simp)], ⟨_, rfl⟩, rfl⟩
      · go_wp2
        go_round
        case rel => exact (Hgo1.out (by simp) (by simp)).1
        case measure => have := (Hgo1.out (by simp) (by simp)).2; simpa [intOf] using this
      · go_wp2
        go_meet
        case rel => exact ⟨by rw [Hgo2.out (by simp) (by simp)], ⟨_, rfl⟩, rfl⟩
      · go_wp2
        go_round
        case rel => exact (Hgo1.out (by simp) (by simp)).1
        case measure => have := (Hgo1.out (by simp) (by simp)).2; simpa [intOf] using this
      · go_wp2
        go_meet
        case rel => exact ⟨by rw [Hgo2.out (by simp) (by simp)], ⟨_, rfl⟩, rfl⟩
  case rest =>
    obtain ⟨rfl, ⟨z, rfl⟩, rfl⟩ := hcut
    go_upto_block 2 with fail
    go_cut [18, 16] (fun a b wx => a = .int .u64 Q2 ∧ (∃ z : Nat, b = .int .u64 z) ∧ wx = wc)
    case first =>
      clear eY eY1 eY0 eU eL eD1 eD0 eA eP eR eT1 eT2 eT3 eV eA2 eA2' eP2 eR2 eT4 eT5 eT6 eT7 eT8 eT9 eTA
      go_wp2_with fail
      go_loop [18, 16] (fun a b => DivRel Y1 V Q2 a b) (fun a _ => (intOf a).toNat)
      case atStart => exact HA2.out
      case round =>
        obtain ⟨q, r, rfl, rfl, hq, hQ, hq1, hr⟩ := hrel
        obtain ⟨q', r', X, Z, Z', b1, b2, b3, ⟨w1, w2, w3, w4, w5, w6, w7, w8⟩, hdone, hgo1, hgo2⟩ := GG2.out q r hq hQ hq1 hr
        have Hdone := Lib.hid hdone; clear hdone
        have Hgo1 := Lib.hid hgo1; clear hgo1
        have Hgo2 := Lib.hid hgo2; clear hgo2
        clear hq hQ hq1 hr
        cases b1 <;> cases b2 <;> cases b3
        · go_wp2
          go_meet
          case rel => exact ⟨by rw [Hdone.out (by simp) (by simp)], ⟨_, rfl⟩, rfl⟩
        · go_wp2
          go_meet
          case rel => exact ⟨by rw [Hdone.out (by simp) (by simp)], ⟨_, rfl⟩, rfl⟩
        · go_wp2
          go_round
          case rel => exact (Hgo1.out (by simp) (by simp)).1
          case measure => have := (Hgo1.out (by simp) (by simp)).2; simpa [intOf] using this
        · go_wp2
          go_meet
          case rel => exact ⟨by rw [Hgo2.out (by simp) (by simp)], ⟨_, rfl⟩, rfl⟩
        · go_wp2
          go_round
          case rel => exact (Hgo1.out (by simp) (by simp)).1
          case measure => have := (Hgo1.out (by simp) (by simp)).2; simpa [intOf] using this
        · go_wp2
          go_meet
          case rel => exact ⟨by rw [Hgo2.out (by simp) (by simp)], ⟨_, rfl⟩, rfl⟩
        · go_wp2
          go_round
          case rel => exact (Hgo1.out (by simp) (by simp)).1
          case measure => have := (Hgo1.out (by simp) (by simp)).2; simpa [intOf] using this
        · go_wp2
          go_meet
          case rel => exact ⟨by rw [Hgo2.out (by simp) (by simp)], ⟨_, rfl⟩, rfl⟩
    case rest =>
      obtain ⟨rfl, ⟨z2, rfl⟩, rfl⟩ := hcut
      go_wp2
      go_ret2
      exact ⟨rfl, rfl⟩

theorem div64_zero (lo y : Nat) (w : World) (hy0 : 0 < y) (hlo : lo < 18446744073709551616) :
    Calls Tryd.prog 39 #[.int .u64 0, .int .u64 lo, .int .u64 y] w fun e w' => e = .returned (.tuple #[.int .u64 ((lo / y : Nat) : Int), .int .u64 ((lo % y : Nat) : Int)]) ∧ ∃ n, w' = w.drewN n := by
  have hy : (y : Int) ≠ 0 := by omega
  have e1 : IntKind.u64.wrap ((lo : Int) / (y : Int)) = ((lo / y : Nat) : Int) := by
    have : lo / y < 18446744073709551616 := Nat.lt_of_le_of_lt (Nat.div_le_self _ _) hlo
    rw [← Int.natCast_ediv, IntKind.wrap_u64]; generalize lo / y = z at *; omega
  have E1 := Lib.hid e1; clear e1
  go_enter Tryd.func39, Tryd.ntmps39
  go_wp2
  go_quiet (fail)
  go_wp2
  go_ret2
  refine ⟨?_, _, rfl⟩
  show Ending.returned (.tuple #[.int .u64 (IntKind.u64.wrap ((lo : Int) / (y : Int))), .int .u64 ((lo : Int) % (y : Int))]) = _
  rw [E1.out, Int.natCast_emod]

theorem bitLen_lo (y : Nat) (hy0 : 0 < y) (hy : y < 18446744073709551616) : 1 ≤ Lib.bitLen y ∧ Lib.bitLen y ≤ 64 ∧ 2 ^ (Lib.bitLen y - 1) ≤ y ∧ y < 2 ^ Lib.bitLen y := by
  obtain ⟨a, b, c⟩ := Lib.bitLenAux_bounds 64 y hy (by omega)
  exact ⟨a, Lib.bitLen_le y 64 (by omega) hy, b, c⟩

theorem andMask (a : Nat) (ha : a < 18446744073709551616) : bits .and .u64 (a : Int) 4294967295 = ((a % 4294967296 : Nat) : Int) := Mul64.maskN a ha

theorem wrap_rem {U D a b : Nat} (h : a + b = U * 4294967296 + D) (hb : b < 18446744073709551616) :
    IntKind.u64.wrap (((((U * 4294967296 % 18446744073709551616 : Nat) + D) % 18446744073709551616 : Nat) : Int) - ((a % 18446744073709551616 : Nat) : Int)) = (b : Int) := by
  rw [IntKind.wrap_u64]
  omega

theorem div64_pos (hi lo y : Nat) (w : World) (hlt : hi < y) (h0 : 0 < hi) (hy : y < 18446744073709551616) (hlo : lo < 18446744073709551616) :
    Calls Tryd.prog 39 #[.int .u64 hi, .int .u64 lo, .int .u64 y] w fun e w' => e = .returned (.tuple #[.int .u64 (((hi * 18446744073709551616 + lo) / y : Nat) : Int), .int .u64 (((hi * 18446744073709551616 + lo) % y : Nat) : Int)]) ∧ w = w' := by
  have hy0 : 0 < y := by omega
  obtain ⟨b1, b2, b3, b4⟩ := bitLen_lo y hy0 hy
  obtain ⟨s, hs⟩ : ∃ s, Lib.bitLen y + s = 64 := ⟨64 - Lib.bitLen y, by omega⟩
  have p64 : (2 : Nat) ^ 64 = 18446744073709551616 := by decide
  have p63 : (2 : Nat) ^ 63 = 9223372036854775808 := by decide
  have hYlt : y * 2 ^ s < 18446744073709551616 := by
    have h := Nat.mul_lt_mul_of_pos_right b4 (Nat.two_pow_pos s)
    rw [← Nat.pow_add, hs, p64] at h; exact h
  have hYge : 9223372036854775808 ≤ y * 2 ^ s := by
    have h := Nat.mul_le_mul_right (2 ^ s) b3
    rw [← Nat.pow_add, show Lib.bitLen y - 1 + s = 63 by omega, p63] at h; exact h
  obtain ⟨hU, hN⟩ := Knuth.upper (hi := hi) (lo := lo) (y := y) (s := s) (by omega) hlo hlt hYlt
  have hlo2 : lo / 2 ^ (64 - s) < 18446744073709551616 := Nat.lt_of_le_of_lt (Nat.div_le_self _ _) hlo
  have eU0 : bits .or .u64 (IntKind.u64.wrap ((hi : Int) * 2 ^ s)) ((lo : Int) / 2 ^ (64 - s)) = ((hi * 2 ^ s % 18446744073709551616 ||| lo / 2 ^ (64 - s) : Nat) : Int) := by
    have e1 : IntKind.u64.wrap ((hi : Int) * 2 ^ s) = ((hi * 2 ^ s % 18446744073709551616 : Nat) : Int) := by
      rw [IntKind.wrap_u64, Int.natCast_emod, Int.natCast_mul, Int.natCast_pow]; rfl
    have e2 : (lo : Int) / 2 ^ (64 - s) = ((lo / 2 ^ (64 - s) : Nat) : Int) := by
      rw [Int.natCast_ediv, Int.natCast_pow]; rfl
    rw [e1, e2, bits_or_u64_nat _ _ (Nat.mod_lt _ (by decide)) hlo2]
  have eY : IntKind.u64.wrap ((y : Int) * 2 ^ s) = ((y * 2 ^ s : Nat) : Int) := by
    rw [IntKind.wrap_u64, show (y : Int) * 2 ^ s = ((y * 2 ^ s : Nat) : Int) by rw [Int.natCast_mul, Int.natCast_pow]; rfl]; omega
  have eL : IntKind.u64.wrap ((lo : Int) * 2 ^ s) = ((lo * 2 ^ s % 18446744073709551616 : Nat) : Int) := by
    rw [IntKind.wrap_u64, Int.natCast_emod, Int.natCast_mul, Int.natCast_pow]; rfl
  have hLlt : lo * 2 ^ s % 18446744073709551616 < 18446744073709551616 := Nat.mod_lt _ (by decide)
  obtain ⟨Y, hY⟩ : ∃ Y, Y = y * 2 ^ s := ⟨_, rfl⟩
  rw [← hY] at eY hYlt hYge hU
  generalize (hi * 2 ^ s % 18446744073709551616 ||| lo / 2 ^ (64 - s)) = U at *
  generalize lo * 2 ^ s % 18446744073709551616 = L at *
  have hYs : Y = Y / 4294967296 * 4294967296 + Y % 4294967296 := by omega
  have hY1 : 2147483648 ≤ Y / 4294967296 := by omega
  have hY1' : Y / 4294967296 < 4294967296 := by omega
  have hY0 : Y % 4294967296 < 4294967296 := by omega
  have hD1 : L / 4294967296 < 4294967296 := by omega
  have hD0 : L % 4294967296 < 4294967296 := by omega
  have hLs : L = L / 4294967296 * 4294967296 + L % 4294967296 := by omega
  have hYp : 0 < Y := by omega
  have eY0 := andMask Y hYlt
  have eD0 := andMask L hLlt
  generalize hY1e : Y / 4294967296 = Y1 at *
  generalize hY0e : Y % 4294967296 = Y0 at *
  generalize hD1e : L / 4294967296 = D1 at *
  generalize hD0e : L % 4294967296 = D0 at *
  have wN : ∀ a : Nat, a < 18446744073709551616 → IntKind.u64.wrap (a : Int) = (a : Int) := fun a ha => by rw [IntKind.wrap_u64]; omega
  have half : ∀ (U D : Nat), U < Y → D < 4294967296 → U / Y1 < 18446744073709551616 ∧ U / Y1 * Y1 ≤ U ∧ DivRel Y1 U ((U * 4294967296 + D) / Y) (.int .u64 ((U / Y1 : Nat) : Int)) (.int .u64 ((U - U / Y1 * Y1 : Nat) : Int)) ∧ (U * 4294967296 + D) / Y < 4294967296 := by
    intro U D hU hD
    have h1 := Knuth.start_le hYs hY0 hY1 hU
    have h2 := Nat.div_mul_le_self U Y1
    have h3 : U - U / Y1 * Y1 < Y1 := by
      have := Nat.div_add_mod U Y1
      have h4 := Nat.mod_lt U (show 0 < Y1 by omega)
      rw [Nat.mul_comm] at this
      omega
    refine ⟨by omega, h2, ⟨_, _, rfl, rfl, by omega, Knuth.start_ge hYs (by omega) hD, h1, by omega⟩, Knuth.lt_of_ge hU hD (Nat.le_refl _)⟩
  have rem : ∀ (U D : Nat), U < Y → D < 4294967296 → Y * ((U * 4294967296 + D) / Y) + (U * 4294967296 + D) % Y = U * 4294967296 + D ∧ (U * 4294967296 + D) % Y < Y ∧
      IntKind.u64.wrap (((((U * 4294967296 % 18446744073709551616 : Nat) + D) % 18446744073709551616 : Nat) : Int) - (((U * 4294967296 + D) / Y * Y % 18446744073709551616 : Nat) : Int)) = (((U * 4294967296 + D) % Y : Nat) : Int) := by
    intro U D hU hD
    have h1 := Nat.div_add_mod (U * 4294967296 + D) Y
    have h2 := Nat.mod_lt (U * 4294967296 + D) hYp
    refine ⟨h1, h2, ?_⟩
    rw [Nat.mul_comm _ Y]
    exact wrap_rem h1 (by omega)
  obtain ⟨ha1, ha2, ha3, ha4⟩ := half U D1 hU hD1
  obtain ⟨hr1, hr2, hr3⟩ := rem U D1 hU hD1
  obtain ⟨hb1, hb2, hb3, hb4⟩ := half _ D0 hr2 hD0
  obtain ⟨hs1, hs2, hs3⟩ := rem _ D0 hr2 hD0
  have g1 := round_ok hYs hY0 hY1 hY1' hU hD1
  have g2 := round_ok hYs hY0 hY1 hY1' hr2 hD0
  obtain ⟨j1, j2⟩ := Knuth.join (q1 := (U * 4294967296 + D1) / Y) hy0 hY hN hLs hr1 hs1 hs2
  obtain ⟨V, hV⟩ : ∃ V, V = (U * 4294967296 + D1) % Y := ⟨_, rfl⟩
  obtain ⟨Q, hQ⟩ : ∃ Q, Q = (U * 4294967296 + D1) / Y := ⟨_, rfl⟩
  rw [← hV] at hr1 hr2 hr3 hb1 hb2 hb3 hb4 hs1 hs2 hs3 g2 j1 j2
  rw [← hQ] at hr1 hr3 ha3 ha4 g1 j1
  obtain ⟨TR, hTR⟩ : ∃ V', V' = (V * 4294967296 + D0) % Y := ⟨_, rfl⟩
  obtain ⟨Q2, hQ2⟩ : ∃ Q, Q = (V * 4294967296 + D0) / Y := ⟨_, rfl⟩
  rw [← hTR] at hs1 hs2 hs3 j2
  rw [← hQ2] at hs1 hs3 hb3 hb4 g2 j1
  clear hV hQ hTR hQ2
  rw [← j1, ← j2]
  have mm : ∀ a b : Nat, IntKind.u64.wrap ((a : Int) * (b : Int)) = ((a * b % 18446744073709551616 : Nat) : Int) := fun a b => by
    rw [IntKind.wrap_u64, ← Int.natCast_mul]; omega
  have mk : ∀ a : Nat, IntKind.u64.wrap ((a : Int) * 4294967296) = ((a * 4294967296 % 18446744073709551616 : Nat) : Int) := fun a => by
    rw [IntKind.wrap_u64]; omega
  have aa : ∀ a b : Nat, IntKind.u64.wrap ((a : Int) + (b : Int)) = (((a + b) % 18446744073709551616 : Nat) : Int) := fun a b => by
    rw [IntKind.wrap_u64]; omega
  have e5 : Q * 4294967296 + Q2 = (Q * 4294967296 % 18446744073709551616 + Q2) % 18446744073709551616 := by omega
  rw [e5]
  refine div64_core hi lo y s Y Y1 Y0 U L D1 D0 (U / Y1) (U / Y1 * Y1 % 18446744073709551616) (U - U / Y1 * Y1) Q (Q * Y % 18446744073709551616) (U * 4294967296 % 18446744073709551616) ((U * 4294967296 % 18446744073709551616 + D1) % 18446744073709551616) V
    (V / Y1) (V / Y1 * Y1 % 18446744073709551616) (V - V / Y1 * Y1) Q2 (Q * 4294967296 % 18446744073709551616) _ (V * 4294967296 % 18446744073709551616) ((V * 4294967296 % 18446744073709551616 + D0) % 18446744073709551616) (Q2 * Y % 18446744073709551616) TR _ w hlt h0 (by omega) (Lib.hid (lz64_at y s hy hs))
    eY (by omega) eY0 eU0 eL (by omega) eD0 (Int.natCast_ediv _ _).symm (wN _ ha1) (mm _ _) ?_ (by omega) (mm _ _) (mk _) (aa _ _) hr3 (Int.natCast_ediv _ _).symm (wN _ hb1) (mm _ _) ?_ (mk _) (aa _ _) (mk _) (aa _ _) (mm _ _) hs3 ?_ (Lib.hid ha3) (Lib.hid g1) (Lib.hid hb3) (Lib.hid g2)
  · rw [IntKind.wrap_u64]; omega
  · rw [IntKind.wrap_u64]; omega
  · rw [Int.natCast_ediv, Int.natCast_pow]; rfl

/-- math/bits.Div64: the quotient and the remainder of two words by one. -/
theorem div64_any (hi lo y : Nat) (w : World) (hlt : hi < y) (hy : y < 18446744073709551616) (hlo : lo < 18446744073709551616) :
    Calls Tryd.prog 39 #[.int .u64 hi, .int .u64 lo, .int .u64 y] w fun e w' => e = .returned (.tuple #[.int .u64 (((hi * 18446744073709551616 + lo) / y : Nat) : Int), .int .u64 (((hi * 18446744073709551616 + lo) % y : Nat) : Int)]) ∧ ∃ n, w' = w.drewN n := by
  by_cases h0 : hi = 0
  · subst h0
    have := div64_zero lo y w (by omega) hlo
    rw [Nat.zero_mul, Nat.zero_add]
    exact this
  · refine (div64_pos hi lo y w hlt (by omega) hy hlo).mono ?_
    rintro e w' ⟨he, rfl⟩
    exact ⟨he, 0, rfl⟩
end Go.Proofs.YtpphfeinmmmckaaDoor

/- Pow: The walks of prime.times, prime.power, and of the reference's times and Power: a product and a power, modulo m; nothing is written. -/
namespace Go.Proofs.YtpphfeinmmmckaaDoor
open Go.RowKit

theorem quiet_left {P : Program} {f : FuncId} {args : Array Value} {w : World} {n : Nat} {v : Value}
    (h : Calls P f args (w.drewN n) fun e w' => e = .returned v ∧ w.drewN n = w') : Calls P f args (w.drewN n) fun e w'' => e = .returned v ∧ ∃ m, w'' = w.drewN m :=
  h.mono fun _ _ ⟨he, hm⟩ => ⟨he, n, hm.symm⟩

theorem drewN_zero (w : World) : w = w.drewN 0 := rfl

set_option maxHeartbeats 400000 in
theorem times_core (a b m x y hi lo r q : Nat) (w : World) (hm : 1 ≤ m) (ex : (a : Int) % (m : Int) = (x : Int)) (ey : (b : Int) % (m : Int) = (y : Int))
    (c1 : Hid (∀ w, Calls Tryd.prog 38 #[.int .u64 x, .int .u64 y] w fun e w' => e = .returned (.tuple #[.int .u64 (hi : Int), .int .u64 (lo : Int)]) ∧ w = w'))
    (c2 : Hid (∀ w, Calls Tryd.prog 39 #[.int .u64 hi, .int .u64 lo, .int .u64 m] w fun e w' => e = .returned (.tuple #[.int .u64 (q : Int), .int .u64 (r : Int)]) ∧ ∃ n, w' = w.drewN n)) :
    Calls Tryd.prog 29 #[.int .u64 a, .int .u64 b, .int .u64 m] w fun e w' => e = .returned (.int .u64 (r : Int)) ∧ ∃ n, w' = w.drewN n := by
  have hm0 : (m : Int) ≠ 0 := by omega
  go_enter Tryd.func29, Tryd.ntmps29
  go_wp2_with fail
  go_quiet ((go_at_call 38; exact quiet_left (c1.out _)))
  go_wp2_with (go_at_call 39; refine (c2.out _).mono ?_; rintro e w' ⟨rfl, n, rfl⟩)
  go_ret
  exact ⟨rfl, _, rfl⟩

theorem times_any (a b m : Nat) (w : World) (hm : 0 < m) (hm2 : m < 18446744073709551616) :
    Calls Tryd.prog 29 #[.int .u64 a, .int .u64 b, .int .u64 m] w fun e w' => e = .returned (.int .u64 ((a * b % m : Nat) : Int)) ∧ ∃ n, w' = w.drewN n := by
  have hx := Nat.mod_lt a hm
  have hy := Nat.mod_lt b hm
  have hlt : a % m * (b % m) / 18446744073709551616 < m := by
    refine (Nat.div_lt_iff_lt_mul (by decide)).2 ?_
    have h1 : a % m * (b % m) ≤ m * (b % m) := Nat.mul_le_mul_right _ (by omega)
    have h2 : m * (b % m) < m * 18446744073709551616 := Nat.mul_lt_mul_of_pos_left (by omega) hm
    omega
  have h := times_core a b m (a % m) (b % m) _ _ _ _ w hm (Int.natCast_emod _ _).symm (Int.natCast_emod _ _).symm
    (Lib.hid fun w => mul64_any (a % m) (b % m) (by omega) (by omega) w)
    (Lib.hid fun w => div64_any _ _ m w hlt hm2 (Nat.mod_lt _ (by decide)))
  rw [Nat.mul_comm (a % m * (b % m) / 18446744073709551616), Nat.div_add_mod, ← Nat.mul_mod] at h
  exact h

/-- The loop of a power by squaring: what is left to do. -/
def PowRel (m T : Nat) (w : World) (t0 t1 t7 : Value) (wr : World) : Prop :=
  ∃ a n out : Nat, t0 = .int .u64 a ∧ t1 = .int .u64 n ∧ t7 = .int .u64 out ∧ n < 18446744073709551616 ∧ out < m ∧ out * a ^ n % m = T ∧ ∃ k, wr = w.drewN k

theorem pow_odd {m a n out : Nat} (h : n % 2 = 1) : (out * a % m) * (a * a % m) ^ (n / 2) % m = out * a ^ n % m := by
  have e : a ^ n = a * (a * a) ^ (n / 2) := by
    conv => lhs; rw [← Nat.div_add_mod n 2, h]
    rw [Nat.pow_succ, Nat.pow_mul, Nat.mul_comm, Nat.pow_two]
  rw [Nat.mul_mod, Nat.mod_mod, ← Nat.pow_mod, ← Nat.mul_mod, e, Nat.mul_assoc]

theorem pow_even {m a n out : Nat} (h : n % 2 = 0) : out * (a * a % m) ^ (n / 2) % m = out * a ^ n % m := by
  have e : a ^ n = (a * a) ^ (n / 2) := by
    conv => lhs; rw [← Nat.div_add_mod n 2, h]
    rw [Nat.add_zero, Nat.pow_mul, Nat.pow_two]
  rw [Nat.mul_mod, ← Nat.pow_mod, ← Nat.mul_mod, e]

theorem intOf_u64 (n : Nat) : (intOf (.int .u64 (n : Int))).toNat = n := by simp [intOf]

set_option maxRecDepth 100000 in
set_option maxHeartbeats 400000 in
theorem power_core (A N m x y : Nat) (w : World) (hm : 1 ≤ m) (hm2 : Hid (m < 18446744073709551616)) (hN : Hid (N < 18446744073709551616)) (ex : (A : Int) % (m : Int) = (x : Int)) (ey : (1 : Int) % (m : Int) = (y : Int)) (hy : Hid (y < m ∧ y * x ^ N % m = A ^ N % m)) :
    Calls Tryd.prog 28 #[.int .u64 A, .int .u64 N, .int .u64 m] w fun e w' => e = .returned (.int .u64 ((A ^ N % m : Nat) : Int)) ∧ ∃ n, w' = w.drewN n := by
  obtain ⟨T, hT⟩ : ∃ T, T = A ^ N % m := ⟨_, rfl⟩
  rw [← hT] at hy ⊢
  clear hT
  have hm0 : (m : Int) ≠ 0 := by omega
  go_enter Tryd.func28, Tryd.ntmps28
  go_wp2_with fail
  go_loopw [0, 1, 7] (fun t0 t1 t7 wr => PowRel m T w t0 t1 t7 wr) (fun _ t1 _ _ => (intOf t1).toNat)
  case atStart => exact ⟨x, N, y, by rw [ex], rfl, by rw [ey], hN.out, hy.out.1, hy.out.2, 0, rfl⟩
  case round =>
    clear ex ey
    obtain ⟨a, n, out, rfl, rfl, rfl, hnb, hout, hinv, k0, rfl⟩ := hrel
    have Hnb := Lib.hid hnb; clear hnb
    have Hout := Lib.hid hout; clear hout
    have Hinv := Lib.hid hinv; clear hinv
    obtain ⟨o', ho'⟩ : ∃ z, z = out * a % m := ⟨_, rfl⟩
    obtain ⟨a', ha'⟩ : ∃ z, z = a * a % m := ⟨_, rfl⟩
    have c1 : Hid (∀ w, Calls Tryd.prog 29 #[.int .u64 out, .int .u64 a, .int .u64 m] w fun e w' => e = .returned (.int .u64 (o' : Int)) ∧ ∃ n, w' = w.drewN n) := Lib.hid fun w => ho' ▸ times_any out a m w hm hm2.out
    have c2 : Hid (∀ w, Calls Tryd.prog 29 #[.int .u64 a, .int .u64 a, .int .u64 m] w fun e w' => e = .returned (.int .u64 (a' : Int)) ∧ ∃ n, w' = w.drewN n) := Lib.hid fun w => ha' ▸ times_any a a m w hm hm2.out
    have Ho' := Lib.hid ho'; clear ho'
    have Ha' := Lib.hid ha'; clear ha'
    by_cases hn : 1 ≤ n
    · obtain ⟨k, hk⟩ : ∃ k, k = n / 2 := ⟨_, rfl⟩
      have ek : (n : Int) / 2 = (k : Int) := by omega
      have ek' : IntKind.u64.wrap (k : Int) = (k : Int) := by rw [IntKind.wrap_u64]; have := Hnb.out; omega
      have Hk := Lib.hid hk; clear hk
      by_cases h2 : n % 2 = 1
      · go_wp2_with fail
        refine (c1.out _).mono ?_
        rintro e w' ⟨rfl, k1, rfl⟩
        go_wp2_with fail
        refine (c2.out _).mono ?_
        rintro e w' ⟨rfl, k2, rfl⟩
        go_wp2_with fail
        go_roundw
        case rel => exact ⟨a', k, o', rfl, rfl, rfl, by have := Hk.out; have := Hnb.out; omega, by rw [Ho'.out]; exact Nat.mod_lt _ hm, by rw [Ho'.out, Ha'.out, Hk.out, pow_odd h2]; exact Hinv.out, _, rfl⟩
        case measure => rw [intOf_u64, intOf_u64]; have := Hk.out; omega
      · have h3 : n % 2 = 0 := by omega
        clear h2
        go_wp2_with fail
        refine (c2.out _).mono ?_
        rintro e w' ⟨rfl, k2, rfl⟩
        go_wp2_with fail
        go_roundw
        case rel => exact ⟨a', k, out, rfl, rfl, rfl, by have := Hk.out; have := Hnb.out; omega, Hout.out, by rw [Ha'.out, Hk.out, pow_even h3]; exact Hinv.out, _, rfl⟩
        case measure => rw [intOf_u64, intOf_u64]; have := Hk.out; omega
    · obtain rfl : n = 0 := by omega
      go_wp2_with fail
      go_ret
      refine ⟨?_, _, rfl⟩
      have := Hinv.out
      rw [Nat.pow_zero, Nat.mul_one, Nat.mod_eq_of_lt Hout.out] at this
      show Ending.returned (.int .u64 (out : Int)) = _
      rw [this]

/-- prime.power: a to the n modulo m. -/
theorem power_any (a n m : Nat) (w : World) (hm : 0 < m) (hm2 : m < 18446744073709551616) (hn : n < 18446744073709551616) :
    Calls Tryd.prog 28 #[.int .u64 a, .int .u64 n, .int .u64 m] w fun e w' => e = .returned (.int .u64 ((a ^ n % m : Nat) : Int)) ∧ ∃ k, w' = w.drewN k :=
  power_core a n m (a % m) (1 % m) w hm (Lib.hid hm2) (Lib.hid hn) (Int.natCast_emod _ _).symm (Int.natCast_emod _ _).symm
    (Lib.hid ⟨Nat.mod_lt _ hm, by rw [Nat.mul_mod, Nat.mod_mod, ← Nat.mul_mod, Nat.one_mul, ← Nat.pow_mod]⟩)

/-- The loop of a product by doubling. -/
def DblRel (m T : Nat) (t0 t1 t7 : Value) : Prop :=
  ∃ a b out : Nat, t0 = .int .u64 a ∧ t1 = .int .u64 b ∧ t7 = .int .u64 out ∧ b < 18446744073709551616 ∧ a < m ∧ out < m ∧ (out + a * b) % m = T

theorem dbl_odd {m a b out : Nat} (h : b % 2 = 1) : ((out + a) % m + (a + a) % m * (b / 2)) % m = (out + a * b) % m := by
  have e : out + a * b = (out + a) + (a + a) * (b / 2) := by
    conv => lhs; rw [← Nat.div_add_mod b 2, h]
    rw [Nat.mul_add, Nat.mul_one, ← Nat.mul_assoc, Nat.mul_two]
    omega
  rw [e, Nat.mod_add_mod, Nat.add_mod, Nat.mul_mod, Nat.mod_mod, ← Nat.mul_mod, ← Nat.add_mod]

theorem dbl_even {m a b out : Nat} (h : b % 2 = 0) : (out + (a + a) % m * (b / 2)) % m = (out + a * b) % m := by
  have e : out + a * b = out + (a + a) * (b / 2) := by
    conv => lhs; rw [← Nat.div_add_mod b 2, h]
    rw [Nat.add_zero, ← Nat.mul_assoc, Nat.mul_two]
  rw [e, Nat.add_mod, Nat.mul_mod, Nat.mod_mod, ← Nat.mul_mod, ← Nat.add_mod]

set_option maxRecDepth 100000 in
set_option maxHeartbeats 400000 in
theorem rtimes_any (A B m : Nat) (w : World) (hA : Hid (A < m)) (hm2 : Hid (m ≤ 9223372036854775808)) (hB : Hid (B < 18446744073709551616)) :
    Calls Tryd.prog 30 #[.int .u64 A, .int .u64 B, .int .u64 m] w fun e w' => e = .returned (.int .u64 ((A * B % m : Nat) : Int)) ∧ w = w' := by
  obtain ⟨T, hT⟩ : ∃ T, T = A * B % m := ⟨_, rfl⟩
  rw [← hT]
  have HT := Lib.hid hT; clear hT
  have hm : 1 ≤ m := by have := hA.out; omega
  have hm0 : (m : Int) ≠ 0 := by omega
  go_enter Tryd.func30, Tryd.ntmps30
  go_wp2_with fail
  go_loop [0, 1, 7] (fun t0 t1 t7 => DblRel m T t0 t1 t7) (fun _ t1 _ => (intOf t1).toNat)
  case atStart => exact ⟨A, B, 0, rfl, rfl, rfl, hB.out, hA.out, by omega, by rw [HT.out, Nat.zero_add]⟩
  case round =>
    obtain ⟨a, n, out, rfl, rfl, rfl, hnb, ha, hout, hinv⟩ := hrel
    have Hnb := Lib.hid hnb; clear hnb
    have Hout := Lib.hid hout; clear hout
    have Hinv := Lib.hid hinv; clear hinv
    have Ha := Lib.hid ha; clear ha
    obtain ⟨o', ho'⟩ : ∃ z, z = (out + a) % m := ⟨_, rfl⟩
    obtain ⟨a', ha'⟩ : ∃ z, z = (a + a) % m := ⟨_, rfl⟩
    have wN : ∀ a : Nat, a < 18446744073709551616 → IntKind.u64.wrap (a : Int) = (a : Int) := fun a ha => by rw [IntKind.wrap_u64]; omega
    obtain ⟨s1, hs1⟩ : ∃ s, s = out + a := ⟨_, rfl⟩
    obtain ⟨s2, hs2⟩ : ∃ s, s = a + a := ⟨_, rfl⟩
    have e1 : IntKind.u64.wrap ((out : Int) + (a : Int)) = (s1 : Int) := by
      have := Hout.out; have := Ha.out; have := hm2.out
      rw [← Int.natCast_add, wN _ (by omega), hs1]
    have e2 : IntKind.u64.wrap ((a : Int) + (a : Int)) = (s2 : Int) := by
      have := Ha.out; have := hm2.out
      rw [← Int.natCast_add, wN _ (by omega), hs2]
    have f1 : (s1 : Int) % (m : Int) = (o' : Int) := by rw [ho', hs1, Int.natCast_emod]
    have f2 : (s2 : Int) % (m : Int) = (a' : Int) := by rw [ha', hs2, Int.natCast_emod]
    have Ho' := Lib.hid ho'; clear ho'
    have Ha' := Lib.hid ha'; clear ha'
    clear hs1 hs2 wN
    by_cases hn : 1 ≤ n
    · obtain ⟨k, hk⟩ : ∃ k, k = n / 2 := ⟨_, rfl⟩
      have ek : (n : Int) / 2 = (k : Int) := by omega
      have ek' : IntKind.u64.wrap (k : Int) = (k : Int) := by rw [IntKind.wrap_u64]; have := Hnb.out; omega
      have Hk := Lib.hid hk; clear hk
      by_cases h2 : n % 2 = 1
      · go_wp2_with fail
        go_round
        case rel => exact ⟨a', k, o', by rw [f2], rfl, by rw [f1], by have := Hk.out; have := Hnb.out; omega, by rw [Ha'.out]; exact Nat.mod_lt _ hm, by rw [Ho'.out]; exact Nat.mod_lt _ hm, by rw [Ho'.out, Ha'.out, Hk.out, dbl_odd h2]; exact Hinv.out⟩
        case measure => rw [intOf_u64, intOf_u64]; have := Hk.out; omega
      · have h3 : n % 2 = 0 := by omega
        clear h2
        go_wp2_with fail
        go_round
        case rel => exact ⟨a', k, out, by rw [f2], rfl, rfl, by have := Hk.out; have := Hnb.out; omega, by rw [Ha'.out]; exact Nat.mod_lt _ hm, Hout.out, by rw [Ha'.out, Hk.out, dbl_even h3]; exact Hinv.out⟩
        case measure => rw [intOf_u64, intOf_u64]; have := Hk.out; omega
    · obtain rfl : n = 0 := by omega
      go_wp2_with fail
      go_ret
      refine ⟨?_, rfl⟩
      have := Hinv.out
      rw [Nat.mul_zero, Nat.add_zero, Nat.mod_eq_of_lt Hout.out] at this
      show Ending.returned (.int .u64 (out : Int)) = _
      rw [this]

/-- The loop of the reference's power by squaring: what is left to do. -/
def RPowRel (m T : Nat) (t0 t1 t7 : Value) : Prop :=
  ∃ a n out : Nat, t0 = .int .u64 a ∧ t1 = .int .u64 n ∧ t7 = .int .u64 out ∧ n < 18446744073709551616 ∧ a < m ∧ out < m ∧ out * a ^ n % m = T

set_option maxRecDepth 100000 in
set_option maxHeartbeats 400000 in
theorem rpower_core (A N m x y : Nat) (w : World) (hm : 1 ≤ m) (hm2 : Hid (m ≤ 9223372036854775808)) (hN : Hid (N < 18446744073709551616)) (ex : (A : Int) % (m : Int) = (x : Int)) (ey : (1 : Int) % (m : Int) = (y : Int)) (hy : Hid (x < m ∧ y < m ∧ y * x ^ N % m = A ^ N % m)) :
    Calls Tryd.prog 16 #[.int .u64 A, .int .u64 N, .int .u64 m] w fun e w' => e = .returned (.int .u64 ((A ^ N % m : Nat) : Int)) ∧ w = w' := by
  obtain ⟨T, hT⟩ : ∃ T, T = A ^ N % m := ⟨_, rfl⟩
  rw [← hT] at hy ⊢
  clear hT
  have hm0 : (m : Int) ≠ 0 := by omega
  go_enter Tryd.func16, Tryd.ntmps16
  go_wp2_with fail
  go_loop [0, 1, 7] (fun t0 t1 t7 => RPowRel m T t0 t1 t7) (fun _ t1 _ => (intOf t1).toNat)
  case atStart => exact ⟨x, N, y, by rw [ex], rfl, by rw [ey], hN.out, hy.out.1, hy.out.2.1, hy.out.2.2⟩
  case round =>
    clear ex ey
    obtain ⟨a, n, out, rfl, rfl, rfl, hnb, ha, hout, hinv⟩ := hrel
    have Hnb := Lib.hid hnb; clear hnb
    have Ha := Lib.hid ha; clear ha
    have Hout := Lib.hid hout; clear hout
    have Hinv := Lib.hid hinv; clear hinv
    obtain ⟨o', ho'⟩ : ∃ z, z = out * a % m := ⟨_, rfl⟩
    obtain ⟨a', ha'⟩ : ∃ z, z = a * a % m := ⟨_, rfl⟩
    have ba : a < 18446744073709551616 := by have := Ha.out; have := hm2.out; omega
    have c1 : Hid (∀ w, Calls Tryd.prog 30 #[.int .u64 out, .int .u64 a, .int .u64 m] w fun e w' => e = .returned (.int .u64 (o' : Int)) ∧ w = w') := Lib.hid fun w => ho' ▸ rtimes_any out a m w Hout hm2 (Lib.hid ba)
    have c2 : Hid (∀ w, Calls Tryd.prog 30 #[.int .u64 a, .int .u64 a, .int .u64 m] w fun e w' => e = .returned (.int .u64 (a' : Int)) ∧ w = w') := Lib.hid fun w => ha' ▸ rtimes_any a a m w Ha hm2 (Lib.hid ba)
    clear ba
    have Ho' := Lib.hid ho'; clear ho'
    have Ha' := Lib.hid ha'; clear ha'
    by_cases hn : 1 ≤ n
    · obtain ⟨k, hk⟩ : ∃ k, k = n / 2 := ⟨_, rfl⟩
      have ek : (n : Int) / 2 = (k : Int) := by omega
      have ek' : IntKind.u64.wrap (k : Int) = (k : Int) := by rw [IntKind.wrap_u64]; have := Hnb.out; omega
      have Hk := Lib.hid hk; clear hk
      by_cases h2 : n % 2 = 1
      · go_wp2_with fail
        refine (c1.out _).mono ?_
        rintro e w' ⟨rfl, rfl⟩
        go_wp2_with fail
        refine (c2.out _).mono ?_
        rintro e w' ⟨rfl, rfl⟩
        go_wp2_with fail
        go_round
        case rel => exact ⟨a', k, o', rfl, rfl, rfl, by have := Hk.out; have := Hnb.out; omega, by rw [Ha'.out]; exact Nat.mod_lt _ hm, by rw [Ho'.out]; exact Nat.mod_lt _ hm, by rw [Ho'.out, Ha'.out, Hk.out, pow_odd h2]; exact Hinv.out⟩
        case measure => rw [intOf_u64, intOf_u64]; have := Hk.out; omega
      · have h3 : n % 2 = 0 := by omega
        clear h2
        go_wp2_with fail
        refine (c2.out _).mono ?_
        rintro e w' ⟨rfl, rfl⟩
        go_wp2_with fail
        go_round
        case rel => exact ⟨a', k, out, rfl, rfl, rfl, by have := Hk.out; have := Hnb.out; omega, by rw [Ha'.out]; exact Nat.mod_lt _ hm, Hout.out, by rw [Ha'.out, Hk.out, pow_even h3]; exact Hinv.out⟩
        case measure => rw [intOf_u64, intOf_u64]; have := Hk.out; omega
    · obtain rfl : n = 0 := by omega
      go_wp2_with fail
      go_ret
      refine ⟨?_, rfl⟩
      have := Hinv.out
      rw [Nat.pow_zero, Nat.mul_one, Nat.mod_eq_of_lt Hout.out] at this
      show Ending.returned (.int .u64 (out : Int)) = _
      rw [this]

/-- The reference's Power: a to the n modulo m. -/
theorem rpower_any (a n m : Nat) (w : World) (hm : 0 < m) (hm2 : m ≤ 9223372036854775808) (hn : n < 18446744073709551616) :
    Calls Tryd.prog 16 #[.int .u64 a, .int .u64 n, .int .u64 m] w fun e w' => e = .returned (.int .u64 ((a ^ n % m : Nat) : Int)) ∧ w = w' :=
  rpower_core a n m (a % m) (1 % m) w hm (Lib.hid hm2) (Lib.hid hn) (Int.natCast_emod _ _).symm (Int.natCast_emod _ _).symm
    (Lib.hid ⟨Nat.mod_lt _ hm, Nat.mod_lt _ hm, by rw [Nat.mul_mod, Nat.mod_mod, ← Nat.mul_mod, Nat.one_mul, ← Nat.pow_mod]⟩)
end Go.Proofs.YtpphfeinmmmckaaDoor

/- Is: The walk of prime.Is: it answers by twelve bases' trial, then by the strong test to each; it makes one block of its own. -/
namespace Go.Proofs.YtpphfeinmmmckaaDoor
open Go.RowKit

abbrev basesV : Value := .agg #[.int .u64 2, .int .u64 3, .int .u64 5, .int .u64 7, .int .u64 11, .int .u64 13, .int .u64 17, .int .u64 19, .int .u64 23, .int .u64 29, .int .u64 31, .int .u64 37]

theorem base_run (k : Nat) (hk : k < 12) (w : World) : (Instr.index 47 basesV (.int .i64 (k : Int))).run Tryd.prog w = .ok (.int .u64 ((baseAt k : Nat) : Int)) w := by
  rcases k with _ | _ | _ | _ | _ | _ | _ | _ | _ | _ | _ | _ | k
  iterate 12 kernel_rfl
  omega

set_option maxRecDepth 100000 in
set_option maxHeartbeats 400000 in
theorem is_lt2 (n : Nat) (w : World) (e1 : decide ((n : Int) < 2) = true) :
    Calls Tryd.prog 14 #[.int .u64 n] w fun e w' => e = .returned (.bool false) ∧ Below w.heap.size w w' := by
  go_enter Tryd.func14, Tryd.ntmps14
  go_wp2_with fail
  go_step3
  go_wp2_with fail
  rw [Exit.noGoto_ret]
  go_ret
  exact ⟨rfl, Below.refl _ _⟩

set_option maxRecDepth 100000 in
set_option maxHeartbeats 400000 in
theorem is_big (n : Nat) (w : World) (e1 : decide ((n : Int) < 2) = false) (e2 : decide ((9223372036854775808 : Int) ≤ (n : Int)) = true) :
    Calls Tryd.prog 14 #[.int .u64 n] w fun e w' => e = .returned (.bool false) ∧ Below w.heap.size w w' := by
  go_enter Tryd.func14, Tryd.ntmps14
  go_wp2_with fail
  go_step3
  go_wp2_with fail
  rw [Exit.noGoto_ret]
  go_ret
  exact ⟨rfl, Below.refl _ _⟩

set_option maxRecDepth 100000 in
set_option maxHeartbeats 400000 in
theorem is_div (n k : Nat) (w : World) (hk : k ≤ 11) (e1 : decide ((n : Int) < 2) = false) (e2 : decide ((9223372036854775808 : Int) ≤ (n : Int)) = false)
    (hno : Hid (∀ j, j < k → n % baseAt j ≠ 0)) (hyes : Hid (n % baseAt k = 0)) :
    Calls Tryd.prog 14 #[.int .u64 n] w fun e w' => e = .returned (.bool ((n : Int) == ((baseAt k : Nat) : Int))) ∧ Below w.heap.size w w' := by
  obtain ⟨B, hB⟩ : ∃ B, B = baseAt k := ⟨_, rfl⟩
  rw [← hB]
  have HB := Lib.hid hB; clear hB
  go_enter Tryd.func14, Tryd.ntmps14
  go_wp2_with fail
  go_step3
  go_wp2_with fail
  go_loop [19] (fun t19 => ∃ j : Nat, j ≤ k ∧ t19 = .int .i64 j) (fun t19 => 12 - (intOf t19).toNat)
  case atStart => exact ⟨0, by omega, rfl⟩
  case round =>
    obtain ⟨j, hj, rfl⟩ := hrel
    obtain ⟨b, hb⟩ : ∃ b, b = baseAt j := ⟨_, rfl⟩
    have hrun := base_run j (by omega)
    rw [← hb] at hrun
    have hb2 : 2 ≤ b := by rw [hb]; exact (baseAt_lo j (by omega)).1
    have hb0 : (b : Int) ≠ 0 := by omega
    have Hb := Lib.hid hb; clear hb
    by_cases hjk : j < k
    · have ht : ((n : Int) % (b : Int) == 0) = false := by
        have := hno.out j hjk
        rw [← Hb.out] at this
        rw [beq_eq_false_iff_ne]; omega
      go_wp2_with fail
      go_round
      case rel => exact ⟨j + 1, by omega, by go_num⟩
      case measure => simp [intOf]; omega
    · obtain rfl : j = k := by omega
      have ht : ((n : Int) % (b : Int) == 0) = true := by
        have := hyes.out
        rw [← Hb.out] at this
        rw [beq_iff_eq]; omega
      go_wp2_with fail
      go_ret
      refine ⟨?_, ?_⟩
      · show Ending.returned (.bool ((n : Int) == (b : Int))) = _
        rw [HB.out, ← Hb.out]
      exact (Below.refl _ _).alloc (Nat.le_refl _) _

abbrev basesO : Obj := .cells #[.int .u64 2, .int .u64 3, .int .u64 5, .int .u64 7, .int .u64 11, .int .u64 13, .int .u64 17, .int .u64 19, .int .u64 23, .int .u64 29, .int .u64 31, .int .u64 37] 47

theorem tab_alloc {w : World} (h : TabAt w) (o : Obj) : TabAt (w.alloc o) := fun j hj => by
  have := h j hj
  exact (((Below.refl w.heap.size w).alloc (Nat.le_refl _) o).cell (p := ⟨0, j, none⟩) (World.block_lt_of_cell? _ _ this)).trans this

/-- What holds of the second loop at its head. -/
def StrongRel (n odd twos : Nat) (w : World) (g : Nat) (t38 : Value) (wr : World) : Prop :=
  ∃ j : Nat, j + g = 12 ∧ t38 = .int .i64 j ∧ (∀ i, i < j → strong n odd twos (baseAt i) = true) ∧ ∃ k, wr = w.drewN k

/-- What holds of the squarings at their head: x, and how many are left. -/
def SquareRel (n c : Nat) (R : Bool) (w : World) (g : Nat) (t10 t55 : Value) (wr : World) : Prop :=
  ∃ x i : Nat, i + g = c ∧ t10 = .int .u64 x ∧ t55 = .int .i64 i ∧ squares n g x = R ∧ x < n ∧ ∃ k, wr = w.drewN k

set_option maxRecDepth 100000 in
set_option maxHeartbeats 800000 in
theorem is_strong (n odd twos : Nat) (w : World) (hT : Hid (TabAt w)) (e1 : decide ((n : Int) < 2) = false) (e2 : decide ((9223372036854775808 : Int) ≤ (n : Int)) = false)
    (hnb : n < 9223372036854775808) (hn2 : 2 ≤ n) (htw : 1 ≤ twos) (htw2 : twos ≤ 63) (hod : Hid (odd < 18446744073709551616))
    (hno : Hid (∀ j, j < 12 → n % baseAt j ≠ 0))
    (n1 : Nat) (en1 : (n : Int) - 1 = (n1 : Int)) (hn1 : Hid (n1 = n - 1)) (htz : Hid (Lib.ctz 64 n1 = twos)) (eodd : (n1 : Int) / 2 ^ twos = (odd : Int)) :
    Calls Tryd.prog 14 #[.int .u64 n] w fun e w' => e = .returned (.bool (strongs n odd twos)) ∧ Below w.heap.size w w' := by
  have c27 : Hid (∀ w, TabAt w → Calls Tryd.prog 27 #[.int .u64 n1] w fun e w' => e = .returned (.int .i64 (twos : Int)) ∧ w = w') := Lib.hid fun w hw => htz.out ▸ tz64_any n1 (by have := hn1.out; omega) w hw
  go_enter Tryd.func14, Tryd.ntmps14
  go_wp2_with fail
  go_step3
  go_wp2_with fail
  go_loop [19] (fun t19 => ∃ j : Nat, j ≤ 12 ∧ t19 = .int .i64 j) (fun t19 => 12 - (intOf t19).toNat)
  case atStart => exact ⟨0, by omega, rfl⟩
  case round =>
    obtain ⟨j, hj, rfl⟩ := hrel
    by_cases hjk : j < 12
    · obtain ⟨b, hb⟩ : ∃ b, b = baseAt j := ⟨_, rfl⟩
      have hrun := base_run j (by omega)
      rw [← hb] at hrun
      have hb2 : 2 ≤ b := by rw [hb]; exact (baseAt_lo j (by omega)).1
      have hb0 : (b : Int) ≠ 0 := by omega
      have ht : ((n : Int) % (b : Int) == 0) = false := by
        have := hno.out j hjk
        rw [← hb] at this
        rw [beq_eq_false_iff_ne]; omega
      have Hb := Lib.hid hb; clear hb
      go_wp2_with fail
      go_round
      case rel => exact ⟨j + 1, by omega, by go_num⟩
      case measure => simp [intOf]; omega
    · obtain rfl : j = 12 := by omega
      go_wp2_with fail
      refine (c27.out _ (tab_alloc hT.out _)).mono ?_
      rintro e w' ⟨rfl, rfl⟩
      go_wp2_with fail
      go_step3
      go_wp2_with fail
      clear c27 hno
      go_loopg [38] 12 (fun g t38 wr => StrongRel n odd twos (w.alloc basesO) g t38 wr)
      case atStart => exact ⟨0, rfl, rfl, fun i hi => absurd hi (Nat.not_lt_zero _), 0, rfl⟩
      case round =>
        obtain ⟨gO, rfl⟩ : ∃ g, g = gk := ⟨_, rfl⟩
        obtain ⟨j, hjg, rfl, hall, k0, rfl⟩ := hrel
        have Hall := Lib.hid hall; clear hall
        by_cases hjk : j < 12
        · obtain ⟨b, hb⟩ : ∃ b, b = baseAt j := ⟨_, rfl⟩
          have hrun := base_run j (by omega)
          rw [← hb] at hrun
          have Hb := Lib.hid hb; clear hb
          obtain ⟨x, hx⟩ : ∃ x, x = b ^ odd % n := ⟨_, rfl⟩
          have c28 : Hid (∀ w, Calls Tryd.prog 28 #[.int .u64 b, .int .u64 odd, .int .u64 n] w fun e w' => e = .returned (.int .u64 (x : Int)) ∧ ∃ n, w' = w.drewN n) :=
            Lib.hid fun w => hx ▸ power_any b odd n w (by omega) (by omega) hod.out
          have Hx := Lib.hid hx; clear hx
          by_cases hx1 : x = 1 ∨ x = n1
          · have hs : Hid (strong n odd twos (baseAt j) = true) := Lib.hid (by unfold strong; rw [← Hb.out, ← Hx.out, ← hn1.out, if_pos hx1])
            by_cases h1 : x = 1
            · have t1 : ((x : Int) == 1) = true := by rw [beq_iff_eq]; omega
              have Hx1 := Lib.hid hx1; clear hx1 h1
              go_wp2_with fail
              refine (c28.out _).mono ?_
              rintro e w' ⟨rfl, k1, rfl⟩
              go_wp2_with fail
              go_roundg (gO - 1)
              case rel => exact ⟨j + 1, by omega, by go_num, fun i hi => by rcases Nat.lt_succ_iff_lt_or_eq.1 hi with h | rfl; exact Hall.out i h; exact hs.out, _, rfl⟩
              case measure => omega
            · have t1 : ((x : Int) == 1) = false := by rw [beq_eq_false_iff_ne]; omega
              have t2 : ((x : Int) == (n1 : Int)) = true := by rw [beq_iff_eq]; omega
              have Hx1 := Lib.hid hx1; clear hx1 h1
              go_wp2_with fail
              refine (c28.out _).mono ?_
              rintro e w' ⟨rfl, k1, rfl⟩
              go_wp2_with fail
              go_roundg (gO - 1)
              case rel => exact ⟨j + 1, by omega, by go_num, fun i hi => by rcases Nat.lt_succ_iff_lt_or_eq.1 hi with h | rfl; exact Hall.out i h; exact hs.out, _, rfl⟩
              case measure => omega
          · have hs : Hid (strong n odd twos (baseAt j) = squares n (twos - 1) x) := Lib.hid (by unfold strong; rw [← Hb.out, ← Hx.out, ← hn1.out, if_neg hx1])
            have t1 : ((x : Int) == 1) = false := by rw [beq_eq_false_iff_ne]; omega
            have t2 : ((x : Int) == (n1 : Int)) = false := by rw [beq_eq_false_iff_ne]; omega
            clear hx1
            obtain ⟨c, hc⟩ : ∃ c, c = twos - 1 := ⟨_, rfl⟩
            have ec : (twos : Int) - 1 = (c : Int) := by omega
            rw [← hc] at hs
            have Hc := Lib.hid hc; clear hc
            have Hxn : Hid (x < n) := Lib.hid (by rw [Hx.out]; exact Nat.mod_lt _ (by omega))
            go_wp2_with fail
            refine (c28.out _).mono ?_
            rintro e w' ⟨rfl, k1, rfl⟩
            go_wp2_with fail
            clear t1 t2
            go_loopg [10, 55] c (fun g2 t10 t55 wr => SquareRel n c (squares n c x) (w.alloc basesO) g2 t10 t55 wr)
            case atStart => exact ⟨x, 0, by omega, rfl, rfl, rfl, Hxn.out, _, rfl⟩
            case round =>
              obtain ⟨y, i, hig, rfl, rfl, hsq, hy, k2, rfl⟩ := hrel
              have Hsq := Lib.hid hsq; clear hsq
              by_cases hic : i < c
              · obtain ⟨z, hz⟩ : ∃ z, z = y * y % n := ⟨_, rfl⟩
                have c29 : Hid (∀ w, Calls Tryd.prog 29 #[.int .u64 y, .int .u64 y, .int .u64 n] w fun e w' => e = .returned (.int .u64 (z : Int)) ∧ ∃ n, w' = w.drewN n) :=
                  Lib.hid fun w => hz ▸ times_any y y n w (by omega) (by omega)
                have Hzn : Hid (z < n) := Lib.hid (by rw [hz]; exact Nat.mod_lt _ (by omega))
                have Hstep : Hid (squares n gk y = if z = n1 then true else squares n (gk - 1) z) := Lib.hid (by
                  obtain ⟨g', rfl⟩ : ∃ g', gk = g' + 1 := ⟨gk - 1, by omega⟩
                  rw [squares, ← hz, ← hn1.out]; rfl)
                clear hz
                by_cases hzn : z = n1
                · have t1 : ((z : Int) == (n1 : Int)) = true := by rw [beq_iff_eq]; omega
                  have Hzn1 := Lib.hid hzn; clear hzn
                  go_wp2_with fail
                  refine (c29.out _).mono ?_
                  rintro e w' ⟨rfl, k3, rfl⟩
                  go_wp2_with fail
                  go_roundg (gO - 1)
                  case rel =>
                    refine ⟨j + 1, by omega, by go_num, fun i hi => ?_, _, rfl⟩
                    rcases Nat.lt_succ_iff_lt_or_eq.1 hi with h | rfl
                    · exact Hall.out i h
                    · rw [hs.out, ← Hsq.out, Hstep.out, if_pos Hzn1.out]
                  case measure => omega
                · have t1 : ((z : Int) == (n1 : Int)) = false := by rw [beq_eq_false_iff_ne]; omega
                  have Hzn1 := Lib.hid hzn; clear hzn
                  go_wp2_with fail
                  refine (c29.out _).mono ?_
                  rintro e w' ⟨rfl, k3, rfl⟩
                  go_wp2_with fail
                  go_roundg (gk - 1)
                  case rel => exact ⟨z, i + 1, by omega, rfl, by go_num, by rw [← Hsq.out, Hstep.out, if_neg Hzn1.out], Hzn.out, _, rfl⟩
                  case measure => omega
              · obtain rfl : i = c := by omega
                go_wp2_with fail
                try rw [Exit.noGoto_ret]
                go_ret
                refine ⟨?_, ?_⟩
                · show Ending.returned (.bool false) = _
                  have hf : strong n odd twos (baseAt j) = false := by
                    rw [hs.out, ← Hsq.out, show gk = 0 by omega]; rfl
                  have : strongs n odd twos = false := by
                    unfold strongs
                    rw [List.all_eq_false]
                    exact ⟨j, List.mem_range.2 hjk, by rw [hf]; decide⟩
                  rw [this]
                · exact below_drewN ((Below.refl _ _).alloc (Nat.le_refl _) _) _
        · obtain rfl : j = 12 := by omega
          go_wp2_with fail
          try rw [Exit.noGoto_ret]
          go_ret
          refine ⟨?_, ?_⟩
          · show Ending.returned (.bool true) = _
            have : strongs n odd twos = true := by
              unfold strongs
              rw [List.all_eq_true]
              exact fun i hi => Hall.out i (List.mem_range.1 hi)
            rw [this]
          · exact below_drewN ((Below.refl _ _).alloc (Nat.le_refl _) _) _

/-- prime.Is. -/
theorem is_any (n : Nat) (w : World) (hT : TabAt w) :
    Calls Tryd.prog 14 #[.int .u64 n] w fun e w' => e = .returned (.bool (mrIs n)) ∧ Below w.heap.size w w' := by
  unfold mrIs
  by_cases h1 : n < 2
  · rw [if_pos (.inl h1)]
    exact is_lt2 n w (by simp; omega)
  · by_cases h2 : 9223372036854775808 ≤ n
    · rw [if_pos (.inr h2)]
      exact is_big n w (by simp; omega) (decide_eq_true (by omega))
    · rw [if_neg (by omega)]
      have e1 : decide ((n : Int) < 2) = false := by simp; omega
      have e2 : decide ((9223372036854775808 : Int) ≤ (n : Int)) = false := decide_eq_false (by omega)
      cases hf : (List.range 12).find? (fun k => n % baseAt k == 0) with
      | some k =>
        obtain ⟨a, b, c⟩ := find_some hf
        have := is_div n k w (by omega) e1 e2 (Lib.hid fun j hj => by have := c j hj; simpa using this) (Lib.hid (by simpa using b))
        have e : ((n : Int) == ((baseAt k : Nat) : Int)) = (n == baseAt k) := by rw [Bool.eq_iff_iff]; simp; omega
        rw [e] at this
        exact this
      | none =>
        have hn := List.find?_eq_none.1 hf
        have hno : ∀ j, j < 12 → n % baseAt j ≠ 0 := fun j hj => by have := hn j (List.mem_range.2 hj); simpa using this
        have h0 : n % 2 ≠ 0 := hno 0 (by omega)
        obtain ⟨t1, t2, t3, _, _⟩ := ctz_even (n - 1) (by omega) (by omega) (by omega)
        exact is_strong n _ _ w (Lib.hid hT) e1 e2 (by omega) (by omega) t1 t2 (Lib.hid t3) (Lib.hid hno) (n - 1) (by omega) (Lib.hid rfl) (Lib.hid rfl) (by rw [Int.natCast_ediv, Int.natCast_pow]; rfl)
end Go.Proofs.YtpphfeinmmmckaaDoor

/- Base: What every card of this seat leans on: the listed table as the walks ask for it; a world for the witness. -/
namespace Go.Proofs.YtpphfeinmmmckaaDoor
open Go.ChangeShapes Go.WideShapes Go.ChangeAt Go.RowKit

theorem own : ownKnob Tryd.prog.godebug = none := by kernel_rfl
theorem gTab : Tryd.prog.globalNamed "math/bits.deBruijn64tab" = some 0 := by kernel_rfl
theorem gTabType : (Tryd.prog.globals[0]?).map (·.type) = some 54 := by kernel_rfl
theorem cells54 : Tryd.prog.cellsOf 54 = 64 := by kernel_rfl
theorem cells5 : Tryd.prog.cellsOf 5 = 1 := by kernel_rfl

/-- The table's numbers, as integers. -/
def tabInts : List Int := [0, 1, 56, 2, 57, 49, 28, 3, 61, 58, 42, 50, 38, 29, 17, 4, 62, 47, 59, 36, 45, 43, 51, 22, 53, 39, 33, 30, 24, 18, 12, 5, 63, 55, 48, 27, 60, 41, 37, 16, 46, 35, 44, 21, 52, 32, 23, 11, 54, 26, 40, 15, 34, 20, 31, 10, 25, 14, 19, 9, 13, 8, 7, 6]

theorem tab_of {W : World} (h : laidMetH Tryd.prog [("math/bits.deBruijn64tab", Rows.laid_math_bits_deBruijn64tab)] W) : TabAt W := by
  have t : Lib.TabIs Tryd.prog W "math/bits.deBruijn64tab" .u8 tabInts := Lib.tabIs_of_head (rest := []) gTab gTabType Tryd.underlying54 Tryd.underlying5 cells5 cells54 h
  intro j hj
  have hl : j < 64 := hj
  have h1 := t.cell gTab j (by exact hl)
  rw [h1]
  have e : ∀ j : Fin 64, tabInts.getD j.val 0 = ((Lib.deBruijn64tab.getD j.val 0 : Nat) : Int) := by decide
  rw [e ⟨j, hl⟩]

/-- A world for the witness: the settled one, the table (block 0) holding what its initialiser lays. -/
noncomputable def laidWorld (os : Os) : World :=
  { World.holding Tryd.prog os ⟨#[], #[], []⟩ with heap := (World.holding Tryd.prog os ⟨#[], #[], []⟩).heap.modify 0 fun
      | .cells _ t frozen => .cells (tabInts.map (Value.int .u8)).toArray t frozen
      | o => o }
end Go.Proofs.YtpphfeinmmmckaaDoor

