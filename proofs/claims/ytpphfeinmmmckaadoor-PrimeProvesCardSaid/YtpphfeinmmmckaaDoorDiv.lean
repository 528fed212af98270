/-
  The walk of math/bits.Div64 over this seat's translation.
-/
import Derived.Test.YtpphfeinmmmckaaDoorBits
import Derived.Test.YtpphfeinmmmckaaDoorKnuth
import Derived.WalkSpells
import Derived.WalkLawsBesides
import Derived.Deep.QuietTactic
import Derived.BigQuiet
import Derived.Lib.Hide
import Derived.Deep.DeepCutAuto
import Derived.Deep.CutBlock
import Derived.Lib.ItoaNum
namespace Go.Proofs.YtpphfeinmmmckaaDoor
open Go.RowKit

theorem lz64_at (y s : Nat) (hy : y < 18446744073709551616) (h : Lib.bitLen y + s = 64) (w : World) :
    Calls Tryd.prog 40 #[.int .u64 y] w fun e w' => e = .returned (.int .i64 (s : Int)) ∧ w = w' := by
  refine (lz64_any (y : Int) w (by omega) (by omega)).mono ?_
  rintro e w' ⟨rfl, hw⟩
  refine ⟨?_, hw⟩
  rw [Int.toNat_natCast, show (64 - (Lib.bitLen y : Int)) = (s : Int) by omega]

def DivRel (Y1 U Q : Nat) (t15 t16 : Value) : Prop :=
  ∃ q r : Nat, t15 = .int .u64 q ∧ t16 = .int .u64 r ∧ q * Y1 + r = U ∧ Q ≤ q ∧ q ≤ 4294967297 ∧ r < 4294967296

/-- What a round of either loop finds: its tests and numbers, in the walk's spelling. -/
structure DivNum (Y1 Y0 D q r : Nat) (q' r' X Z Z' : Nat) (b1 b2 b3 : Bool) : Prop where
  w1 : decide ((4294967296 : Int) ≤ (q : Int)) = b1
  w2 : IntKind.u64.wrap ((q : Int) * (Y0 : Int)) = (X : Int)
  w3 : IntKind.u64.wrap (4294967296 * (r : Int)) = (Z : Int)
  w4 : IntKind.u64.wrap ((Z : Int) + (D : Int)) = (Z' : Int)
  w5 : decide (Z' < X) = b2
  w6 : IntKind.u64.wrap ((q : Int) - 1) = (q' : Int)
  w7 : IntKind.u64.wrap ((r : Int) + (Y1 : Int)) = (r' : Int)
  w8 : decide ((4294967296 : Int) ≤ (r' : Int)) = b3

/-- What holds of every round: either it is done, or it goes on, or it breaks out, done. -/
def DivRound (Y1 Y0 D U Q : Nat) : Prop :=
  ∀ q r : Nat, q * Y1 + r = U → Q ≤ q → q ≤ 4294967297 → r < 4294967296 → ∃ (q' r' X Z Z' : Nat) (b1 b2 b3 : Bool),
    DivNum Y1 Y0 D q r q' r' X Z Z' b1 b2 b3 ∧ (b1 = false → b2 = false → q = Q) ∧
    ((b1 || b2) = true → b3 = false → DivRel Y1 U Q (.int .u64 q') (.int .u64 r') ∧ q' < q) ∧ ((b1 || b2) = true → b3 = true → q' = Q)

theorem round_ok {U D Y Y1 Y0 : Nat} (hY : Y = Y1 * 4294967296 + Y0) (hb : Y0 < 4294967296) (hn : 2147483648 ≤ Y1) (hY1 : Y1 < 4294967296) (hU : U < Y) (hD : D < 4294967296) :
    DivRound Y1 Y0 D U ((U * 4294967296 + D) / Y) := by
  intro q r hq hQ hq1 hr
  have hYp : 0 < Y := by omega
  have wN : ∀ a : Nat, a < 18446744073709551616 → IntKind.u64.wrap (a : Int) = (a : Int) := fun a ha => by rw [IntKind.wrap_u64]; omega
  have hX : q < 4294967296 → q * Y0 < 18446744073709551616 := fun h => by
    have : q * Y0 ≤ 4294967296 * Y0 := Nat.mul_le_mul_right _ (by omega)
    omega
  have hlt : (4294967296 ≤ q ∨ (q < 4294967296 ∧ 4294967296 * r + D < q * Y0)) → (U * 4294967296 + D) / Y < q := by
    rintro (h | ⟨_, h⟩)
    · exact Knuth.lt_of_ge hU hD h
    · exact Knuth.lt_of_gt hY hYp hq h
  have hb12 : (decide ((4294967296 : Int) ≤ (q : Int)) || decide (4294967296 * r + D < q * Y0 % 18446744073709551616)) = true → (4294967296 ≤ q ∨ (q < 4294967296 ∧ 4294967296 * r + D < q * Y0)) := by
    intro h
    by_cases c : 4294967296 ≤ q
    · exact .inl c
    · refine .inr ⟨by omega, ?_⟩
      have h2 : decide ((4294967296 : Int) ≤ (q : Int)) = false := by simp; omega
      rw [h2, Bool.false_or, decide_eq_true_eq, Nat.mod_eq_of_lt (hX (by omega))] at h
      exact h
  have hstep : ∀ k, q = k + 1 → k * Y1 + (r + Y1) = U := by
    rintro k rfl
    rw [Nat.add_mul, Nat.one_mul] at hq
    omega
  refine ⟨if q = 0 then 18446744073709551615 else q - 1, r + Y1, q * Y0 % 18446744073709551616, 4294967296 * r, 4294967296 * r + D, _, _, _, ⟨rfl, ?_, ?_, ?_, rfl, ?_, ?_, rfl⟩, ?_, ?_, ?_⟩
  · rw [IntKind.wrap_u64, ← Int.natCast_mul]; omega
  · rw [← wN _ (show 4294967296 * r < 18446744073709551616 by omega)]; rfl
  · rw [← wN _ (show 4294967296 * r + D < 18446744073709551616 by omega)]; rfl
  · split
    · subst q; rfl
    · rw [← wN _ (show q - 1 < 18446744073709551616 by omega)]; congr 1; omega
  · rw [← wN _ (show r + Y1 < 18446744073709551616 by omega)]; rfl
  · intro h1 h2
    have c : q < 4294967296 := by
      have : ¬ ((4294967296 : Int) ≤ (q : Int)) := of_decide_eq_false h1
      omega
    rw [decide_eq_false_iff_not, Nat.mod_eq_of_lt (hX c)] at h2
    have := Knuth.le_of_le (D := D) hY hYp hq (by omega)
    omega
  · intro h h3
    have hl := hlt (hb12 h)
    have h0 : q ≠ 0 := Nat.ne_of_gt (Nat.lt_of_le_of_lt (Nat.zero_le _) hl)
    rw [if_neg h0]
    have h4 : r + Y1 < 4294967296 := by simp at h3; omega
    exact ⟨⟨q - 1, r + Y1, rfl, rfl, hstep _ (by omega), by omega, by omega, h4⟩, by omega⟩
  · intro h h3
    have hl := hlt (hb12 h)
    have h0 : q ≠ 0 := Nat.ne_of_gt (Nat.lt_of_le_of_lt (Nat.zero_le _) hl)
    rw [if_neg h0]
    have h4 : 4294967296 ≤ r + Y1 := by simp at h3; omega
    have := Knuth.le_of_big (D := D) hY hYp hb (hstep (q - 1) (by omega)) h4 (by omega)
    omega

set_option maxRecDepth 100000 in
set_option maxHeartbeats 1000000 in
theorem div64_core (hi lo y s Y Y1 Y0 U L D1 D0 A P R Q T1 T2 T3 V A2 P2 R2 Q2 T4 T5 T6 T7 T8 T9 TA : Nat) (w : World) (hlt : hi < y) (h0 : 0 < hi) (hs : s ≤ 63)
    (lz : Hid (∀ w, Calls Tryd.prog 40 #[.int .u64 y] w fun e w' => e = .returned (.int .i64 (s : Int)) ∧ w = w'))
    (eY : IntKind.u64.wrap ((y : Int) * 2 ^ s) = (Y : Int)) (eY1 : (Y : Int) / 4294967296 = (Y1 : Int)) (eY0 : bits .and .u64 (Y : Int) 4294967295 = (Y0 : Int))
    (eU : bits .or .u64 (IntKind.u64.wrap ((hi : Int) * 2 ^ s)) ((lo : Int) / 2 ^ (64 - s)) = (U : Int))
    (eL : IntKind.u64.wrap ((lo : Int) * 2 ^ s) = (L : Int)) (eD1 : (L : Int) / 4294967296 = (D1 : Int)) (eD0 : bits .and .u64 (L : Int) 4294967295 = (D0 : Int))
    (eA : (U : Int) / (Y1 : Int) = (A : Int)) (eA' : IntKind.u64.wrap (A : Int) = (A : Int)) (eP : IntKind.u64.wrap ((A : Int) * (Y1 : Int)) = (P : Int)) (eR : IntKind.u64.wrap ((U : Int) - (P : Int)) = (R : Int))
    (bY1 : 1 ≤ Y1)
    (eT1 : IntKind.u64.wrap ((Q : Int) * (Y : Int)) = (T1 : Int)) (eT2 : IntKind.u64.wrap ((U : Int) * 4294967296) = (T2 : Int)) (eT3 : IntKind.u64.wrap ((T2 : Int) + (D1 : Int)) = (T3 : Int)) (eV : IntKind.u64.wrap ((T3 : Int) - (T1 : Int)) = (V : Int))
    (eA2 : (V : Int) / (Y1 : Int) = (A2 : Int)) (eA2' : IntKind.u64.wrap (A2 : Int) = (A2 : Int)) (eP2 : IntKind.u64.wrap ((A2 : Int) * (Y1 : Int)) = (P2 : Int)) (eR2 : IntKind.u64.wrap ((V : Int) - (P2 : Int)) = (R2 : Int))
    (eT4 : IntKind.u64.wrap ((Q : Int) * 4294967296) = (T4 : Int)) (eT5 : IntKind.u64.wrap ((T4 : Int) + (Q2 : Int)) = (T5 : Int)) (eT6 : IntKind.u64.wrap ((V : Int) * 4294967296) = (T6 : Int)) (eT7 : IntKind.u64.wrap ((T6 : Int) + (D0 : Int)) = (T7 : Int))
    (eT8 : IntKind.u64.wrap ((Q2 : Int) * (Y : Int)) = (T8 : Int)) (eT9 : IntKind.u64.wrap ((T7 : Int) - (T8 : Int)) = (T9 : Int)) (eTA : (T9 : Int) / 2 ^ s = (TA : Int))
    (HA : Hid (DivRel Y1 U Q (.int .u64 A) (.int .u64 R))) (GG : Hid (DivRound Y1 Y0 D1 U Q)) (HA2 : Hid (DivRel Y1 V Q2 (.int .u64 A2) (.int .u64 R2))) (GG2 : Hid (DivRound Y1 Y0 D0 V Q2)) :
    Calls Tryd.prog 39 #[.int .u64 hi, .int .u64 lo, .int .u64 y] w fun e w' => e = .returned (.tuple #[.int .u64 (T5 : Int), .int .u64 (TA : Int)]) ∧ w = w' := by
  go_enter Tryd.func39, Tryd.ntmps39
  go_upto_block 0 with (go_at_call 40; refine (lz.out _).mono ?_; rintro e w' ⟨rfl, rfl⟩)
  go_cut [15, 16] (fun a b wx => a = .int .u64 Q ∧ (∃ z : Nat, b = .int .u64 z) ∧ wx = w)
  case first =>
    clear eY eY1 eY0 eU eL eD1 eD0 eA eP eR eT1 eT2 eT3 eV eA2 eA2' eP2 eR2 eT4 eT5 eT6 eT7 eT8 eT9 eTA
    go_wp2_with fail
    go_loop [15, 16] (fun a b => DivRel Y1 U Q a b) (fun a _ => (intOf a).toNat)
    case atStart => exact HA.out
    case round =>
      obtain ⟨q, r, rfl, rfl, hq, hQ, hq1, hr⟩ := hrel
      obtain ⟨q', r', X, Z, Z', b1, b2, b3, ⟨w1, w2, w3, w4, w5, w6, w7, w8⟩, hdone, hgo1, hgo2⟩ := GG.out q r hq hQ hq1 hr
      have Hdone := Lib.hid hdone; clear hdone
      have Hgo1 := Lib.hid hgo1; clear hgo1
      have Hgo2 := Lib.hid hgo2; clear hgo2
      clear hq hQ hq1 hr
      cases b1 <;> cases b2 <;> cases b3
      · go_wp2
        go_meet
        case rel => exact ⟨by rw [Hdone.out (by simp) (by simp)], ⟨_, rfl⟩, rfl⟩
      · go_wp2
        go_meet
        case rel => exact ⟨by rw [Hdone.out (by simp) (by simp)], ⟨_, rfl⟩, rfl⟩
      · go_wp2
        go_round
        case rel => exact (Hgo1.out (by simp) (by simp)).1
        case measure => have := (Hgo1.out (by simp) (by simp)).2; simpa [intOf] using this
      · go_wp2
        go_meet
        case rel => exact ⟨by rw [Hgo2.out (by simp) (by simp)], ⟨_, rfl⟩, rfl⟩
      · go_wp2
        go_round
        case rel => exact (Hgo1.out (by simp) (by simp)).1
        case measure => have := (Hgo1.out (by simp) (by simp)).2; simpa [intOf] using this
      · go_wp2
        go_meet
        case rel => exact ⟨by rw [Hgo2.out (by simp) (by simp)], ⟨_, rfl⟩, rfl⟩
      · go_wp2
        go_round
        case rel => exact (Hgo1.out (by simp) (by simp)).1
        case measure => have := (Hgo1.out (by simp) (by simp)).2; simpa [intOf] using this
      · go_wp2
        go_meet
        case rel => exact ⟨by rw [Hgo2.out (by simp) (by simp)], ⟨_, rfl⟩, rfl⟩
  case rest =>
    obtain ⟨rfl, ⟨z, rfl⟩, rfl⟩ := hcut
    go_upto_block 2 with fail
    go_cut [18, 16] (fun a b wx => a = .int .u64 Q2 ∧ (∃ z : Nat, b = .int .u64 z) ∧ wx = wc)
    case first =>
      clear eY eY1 eY0 eU eL eD1 eD0 eA eP eR eT1 eT2 eT3 eV eA2 eA2' eP2 eR2 eT4 eT5 eT6 eT7 eT8 eT9 eTA
      go_wp2_with fail
      go_loop [18, 16] (fun a b => DivRel Y1 V Q2 a b) (fun a _ => (intOf a).toNat)
      case atStart => exact HA2.out
      case round =>
        obtain ⟨q, r, rfl, rfl, hq, hQ, hq1, hr⟩ := hrel
        obtain ⟨q', r', X, Z, Z', b1, b2, b3, ⟨w1, w2, w3, w4, w5, w6, w7, w8⟩, hdone, hgo1, hgo2⟩ := GG2.out q r hq hQ hq1 hr
        have Hdone := Lib.hid hdone; clear hdone
        have Hgo1 := Lib.hid hgo1; clear hgo1
        have Hgo2 := Lib.hid hgo2; clear hgo2
        clear hq hQ hq1 hr
        cases b1 <;> cases b2 <;> cases b3
        · go_wp2
          go_meet
          case rel => exact ⟨by rw [Hdone.out (by simp) (by simp)], ⟨_, rfl⟩, rfl⟩
        · go_wp2
          go_meet
          case rel => exact ⟨by rw [Hdone.out (by simp) (by simp)], ⟨_, rfl⟩, rfl⟩
        · go_wp2
          go_round
          case rel => exact (Hgo1.out (by simp) (by simp)).1
          case measure => have := (Hgo1.out (by simp) (by simp)).2; simpa [intOf] using this
        · go_wp2
          go_meet
          case rel => exact ⟨by rw [Hgo2.out (by simp) (by simp)], ⟨_, rfl⟩, rfl⟩
        · go_wp2
          go_round
          case rel => exact (Hgo1.out (by simp) (by simp)).1
          case measure => have := (Hgo1.out (by simp) (by simp)).2; simpa [intOf] using this
        · go_wp2
          go_meet
          case rel => exact ⟨by rw [Hgo2.out (by simp) (by simp)], ⟨_, rfl⟩, rfl⟩
        · go_wp2
          go_round
          case rel => exact (Hgo1.out (by simp) (by simp)).1
          case measure => have := (Hgo1.out (by simp) (by simp)).2; simpa [intOf] using this
        · go_wp2
          go_meet
          case rel => exact ⟨by rw [Hgo2.out (by simp) (by simp)], ⟨_, rfl⟩, rfl⟩
    case rest =>
      obtain ⟨rfl, ⟨z2, rfl⟩, rfl⟩ := hcut
      go_wp2
      go_ret2
      exact ⟨rfl, rfl⟩

theorem div64_zero (lo y : Nat) (w : World) (hy0 : 0 < y) (hlo : lo < 18446744073709551616) :
    Calls Tryd.prog 39 #[.int .u64 0, .int .u64 lo, .int .u64 y] w fun e w' => e = .returned (.tuple #[.int .u64 ((lo / y : Nat) : Int), .int .u64 ((lo % y : Nat) : Int)]) ∧ ∃ n, w' = w.drewN n := by
  have hy : (y : Int) ≠ 0 := by omega
  have e1 : IntKind.u64.wrap ((lo : Int) / (y : Int)) = ((lo / y : Nat) : Int) := by
    have : lo / y < 18446744073709551616 := Nat.lt_of_le_of_lt (Nat.div_le_self _ _) hlo
    rw [← Int.natCast_ediv, IntKind.wrap_u64]; generalize lo / y = z at *; omega
  have E1 := Lib.hid e1; clear e1
  go_enter Tryd.func39, Tryd.ntmps39
  go_wp2
  go_quiet (fail)
  go_wp2
  go_ret2
  refine ⟨?_, _, rfl⟩
  show Ending.returned (.tuple #[.int .u64 (IntKind.u64.wrap ((lo : Int) / (y : Int))), .int .u64 ((lo : Int) % (y : Int))]) = _
  rw [E1.out, Int.natCast_emod]

theorem bitLen_lo (y : Nat) (hy0 : 0 < y) (hy : y < 18446744073709551616) : 1 ≤ Lib.bitLen y ∧ Lib.bitLen y ≤ 64 ∧ 2 ^ (Lib.bitLen y - 1) ≤ y ∧ y < 2 ^ Lib.bitLen y := by
  obtain ⟨a, b, c⟩ := Lib.bitLenAux_bounds 64 y hy (by omega)
  exact ⟨a, Lib.bitLen_le y 64 (by omega) hy, b, c⟩

theorem andMask (a : Nat) (ha : a < 18446744073709551616) : bits .and .u64 (a : Int) 4294967295 = ((a % 4294967296 : Nat) : Int) := Mul64.maskN a ha

theorem wrap_rem {U D a b : Nat} (h : a + b = U * 4294967296 + D) (hb : b < 18446744073709551616) :
    IntKind.u64.wrap (((((U * 4294967296 % 18446744073709551616 : Nat) + D) % 18446744073709551616 : Nat) : Int) - ((a % 18446744073709551616 : Nat) : Int)) = (b : Int) := by
  rw [IntKind.wrap_u64]
  omega

theorem div64_pos (hi lo y : Nat) (w : World) (hlt : hi < y) (h0 : 0 < hi) (hy : y < 18446744073709551616) (hlo : lo < 18446744073709551616) :
    Calls Tryd.prog 39 #[.int .u64 hi, .int .u64 lo, .int .u64 y] w fun e w' => e = .returned (.tuple #[.int .u64 (((hi * 18446744073709551616 + lo) / y : Nat) : Int), .int .u64 (((hi * 18446744073709551616 + lo) % y : Nat) : Int)]) ∧ w = w' := by
  have hy0 : 0 < y := by omega
  obtain ⟨b1, b2, b3, b4⟩ := bitLen_lo y hy0 hy
  obtain ⟨s, hs⟩ : ∃ s, Lib.bitLen y + s = 64 := ⟨64 - Lib.bitLen y, by omega⟩
  have p64 : (2 : Nat) ^ 64 = 18446744073709551616 := by decide
  have p63 : (2 : Nat) ^ 63 = 9223372036854775808 := by decide
  have hYlt : y * 2 ^ s < 18446744073709551616 := by
    have h := Nat.mul_lt_mul_of_pos_right b4 (Nat.two_pow_pos s)
    rw [← Nat.pow_add, hs, p64] at h; exact h
  have hYge : 9223372036854775808 ≤ y * 2 ^ s := by
    have h := Nat.mul_le_mul_right (2 ^ s) b3
    rw [← Nat.pow_add, show Lib.bitLen y - 1 + s = 63 by omega, p63] at h; exact h
  obtain ⟨hU, hN⟩ := Knuth.upper (hi := hi) (lo := lo) (y := y) (s := s) (by omega) hlo hlt hYlt
  have hlo2 : lo / 2 ^ (64 - s) < 18446744073709551616 := Nat.lt_of_le_of_lt (Nat.div_le_self _ _) hlo
  have eU0 : bits .or .u64 (IntKind.u64.wrap ((hi : Int) * 2 ^ s)) ((lo : Int) / 2 ^ (64 - s)) = ((hi * 2 ^ s % 18446744073709551616 ||| lo / 2 ^ (64 - s) : Nat) : Int) := by
    have e1 : IntKind.u64.wrap ((hi : Int) * 2 ^ s) = ((hi * 2 ^ s % 18446744073709551616 : Nat) : Int) := by
      rw [IntKind.wrap_u64, Int.natCast_emod, Int.natCast_mul, Int.natCast_pow]; rfl
    have e2 : (lo : Int) / 2 ^ (64 - s) = ((lo / 2 ^ (64 - s) : Nat) : Int) := by
      rw [Int.natCast_ediv, Int.natCast_pow]; rfl
    rw [e1, e2, bits_or_u64_nat _ _ (Nat.mod_lt _ (by decide)) hlo2]
  have eY : IntKind.u64.wrap ((y : Int) * 2 ^ s) = ((y * 2 ^ s : Nat) : Int) := by
    rw [IntKind.wrap_u64, show (y : Int) * 2 ^ s = ((y * 2 ^ s : Nat) : Int) by rw [Int.natCast_mul, Int.natCast_pow]; rfl]; omega
  have eL : IntKind.u64.wrap ((lo : Int) * 2 ^ s) = ((lo * 2 ^ s % 18446744073709551616 : Nat) : Int) := by
    rw [IntKind.wrap_u64, Int.natCast_emod, Int.natCast_mul, Int.natCast_pow]; rfl
  have hLlt : lo * 2 ^ s % 18446744073709551616 < 18446744073709551616 := Nat.mod_lt _ (by decide)
  obtain ⟨Y, hY⟩ : ∃ Y, Y = y * 2 ^ s := ⟨_, rfl⟩
  rw [← hY] at eY hYlt hYge hU
  generalize (hi * 2 ^ s % 18446744073709551616 ||| lo / 2 ^ (64 - s)) = U at *
  generalize lo * 2 ^ s % 18446744073709551616 = L at *
  have hYs : Y = Y / 4294967296 * 4294967296 + Y % 4294967296 := by omega
  have hY1 : 2147483648 ≤ Y / 4294967296 := by omega
  have hY1' : Y / 4294967296 < 4294967296 := by omega
  have hY0 : Y % 4294967296 < 4294967296 := by omega
  have hD1 : L / 4294967296 < 4294967296 := by omega
  have hD0 : L % 4294967296 < 4294967296 := by omega
  have hLs : L = L / 4294967296 * 4294967296 + L % 4294967296 := by omega
  have hYp : 0 < Y := by omega
  have eY0 := andMask Y hYlt
  have eD0 := andMask L hLlt
  generalize hY1e : Y / 4294967296 = Y1 at *
  generalize hY0e : Y % 4294967296 = Y0 at *
  generalize hD1e : L / 4294967296 = D1 at *
  generalize hD0e : L % 4294967296 = D0 at *
  have wN : ∀ a : Nat, a < 18446744073709551616 → IntKind.u64.wrap (a : Int) = (a : Int) := fun a ha => by rw [IntKind.wrap_u64]; omega
  have half : ∀ (U D : Nat), U < Y → D < 4294967296 → U / Y1 < 18446744073709551616 ∧ U / Y1 * Y1 ≤ U ∧ DivRel Y1 U ((U * 4294967296 + D) / Y) (.int .u64 ((U / Y1 : Nat) : Int)) (.int .u64 ((U - U / Y1 * Y1 : Nat) : Int)) ∧ (U * 4294967296 + D) / Y < 4294967296 := by
    intro U D hU hD
    have h1 := Knuth.start_le hYs hY0 hY1 hU
    have h2 := Nat.div_mul_le_self U Y1
    have h3 : U - U / Y1 * Y1 < Y1 := by
      have := Nat.div_add_mod U Y1
      have h4 := Nat.mod_lt U (show 0 < Y1 by omega)
      rw [Nat.mul_comm] at this
      omega
    refine ⟨by omega, h2, ⟨_, _, rfl, rfl, by omega, Knuth.start_ge hYs (by omega) hD, h1, by omega⟩, Knuth.lt_of_ge hU hD (Nat.le_refl _)⟩
  have rem : ∀ (U D : Nat), U < Y → D < 4294967296 → Y * ((U * 4294967296 + D) / Y) + (U * 4294967296 + D) % Y = U * 4294967296 + D ∧ (U * 4294967296 + D) % Y < Y ∧
      IntKind.u64.wrap (((((U * 4294967296 % 18446744073709551616 : Nat) + D) % 18446744073709551616 : Nat) : Int) - (((U * 4294967296 + D) / Y * Y % 18446744073709551616 : Nat) : Int)) = (((U * 4294967296 + D) % Y : Nat) : Int) := by
    intro U D hU hD
    have h1 := Nat.div_add_mod (U * 4294967296 + D) Y
    have h2 := Nat.mod_lt (U * 4294967296 + D) hYp
    refine ⟨h1, h2, ?_⟩
    rw [Nat.mul_comm _ Y]
    exact wrap_rem h1 (by omega)
  obtain ⟨ha1, ha2, ha3, ha4⟩ := half U D1 hU hD1
  obtain ⟨hr1, hr2, hr3⟩ := rem U D1 hU hD1
  obtain ⟨hb1, hb2, hb3, hb4⟩ := half _ D0 hr2 hD0
  obtain ⟨hs1, hs2, hs3⟩ := rem _ D0 hr2 hD0
  have g1 := round_ok hYs hY0 hY1 hY1' hU hD1
  have g2 := round_ok hYs hY0 hY1 hY1' hr2 hD0
  obtain ⟨j1, j2⟩ := Knuth.join (q1 := (U * 4294967296 + D1) / Y) hy0 hY hN hLs hr1 hs1 hs2
  obtain ⟨V, hV⟩ : ∃ V, V = (U * 4294967296 + D1) % Y := ⟨_, rfl⟩
  obtain ⟨Q, hQ⟩ : ∃ Q, Q = (U * 4294967296 + D1) / Y := ⟨_, rfl⟩
  rw [← hV] at hr1 hr2 hr3 hb1 hb2 hb3 hb4 hs1 hs2 hs3 g2 j1 j2
  rw [← hQ] at hr1 hr3 ha3 ha4 g1 j1
  obtain ⟨TR, hTR⟩ : ∃ V', V' = (V * 4294967296 + D0) % Y := ⟨_, rfl⟩
  obtain ⟨Q2, hQ2⟩ : ∃ Q, Q = (V * 4294967296 + D0) / Y := ⟨_, rfl⟩
  rw [← hTR] at hs1 hs2 hs3 j2
  rw [← hQ2] at hs1 hs3 hb3 hb4 g2 j1
  clear hV hQ hTR hQ2
  rw [← j1, ← j2]
  have mm : ∀ a b : Nat, IntKind.u64.wrap ((a : Int) * (b : Int)) = ((a * b % 18446744073709551616 : Nat) : Int) := fun a b => by
    rw [IntKind.wrap_u64, ← Int.natCast_mul]; omega
  have mk : ∀ a : Nat, IntKind.u64.wrap ((a : Int) * 4294967296) = ((a * 4294967296 % 18446744073709551616 : Nat) : Int) := fun a => by
    rw [IntKind.wrap_u64]; omega
  have aa : ∀ a b : Nat, IntKind.u64.wrap ((a : Int) + (b : Int)) = (((a + b) % 18446744073709551616 : Nat) : Int) := fun a b => by
    rw [IntKind.wrap_u64]; omega
  have e5 : Q * 4294967296 + Q2 = (Q * 4294967296 % 18446744073709551616 + Q2) % 18446744073709551616 := by omega
  rw [e5]
  refine div64_core hi lo y s Y Y1 Y0 U L D1 D0 (U / Y1) (U / Y1 * Y1 % 18446744073709551616) (U - U / Y1 * Y1) Q (Q * Y % 18446744073709551616) (U * 4294967296 % 18446744073709551616) ((U * 4294967296 % 18446744073709551616 + D1) % 18446744073709551616) V
    (V / Y1) (V / Y1 * Y1 % 18446744073709551616) (V - V / Y1 * Y1) Q2 (Q * 4294967296 % 18446744073709551616) _ (V * 4294967296 % 18446744073709551616) ((V * 4294967296 % 18446744073709551616 + D0) % 18446744073709551616) (Q2 * Y % 18446744073709551616) TR _ w hlt h0 (by omega) (Lib.hid (lz64_at y s hy hs))
    eY (by omega) eY0 eU0 eL (by omega) eD0 (Int.natCast_ediv _ _).symm (wN _ ha1) (mm _ _) ?_ (by omega) (mm _ _) (mk _) (aa _ _) hr3 (Int.natCast_ediv _ _).symm (wN _ hb1) (mm _ _) ?_ (mk _) (aa _ _) (mk _) (aa _ _) (mm _ _) hs3 ?_ (Lib.hid ha3) (Lib.hid g1) (Lib.hid hb3) (Lib.hid g2)
  · rw [IntKind.wrap_u64]; omega
  · rw [IntKind.wrap_u64]; omega
  · rw [Int.natCast_ediv, Int.natCast_pow]; rfl

/-- math/bits.Div64: the quotient and the remainder of two words by one. -/
theorem div64_any (hi lo y : Nat) (w : World) (hlt : hi < y) (hy : y < 18446744073709551616) (hlo : lo < 18446744073709551616) :
    Calls Tryd.prog 39 #[.int .u64 hi, .int .u64 lo, .int .u64 y] w fun e w' => e = .returned (.tuple #[.int .u64 (((hi * 18446744073709551616 + lo) / y : Nat) : Int), .int .u64 (((hi * 18446744073709551616 + lo) % y : Nat) : Int)]) ∧ ∃ n, w' = w.drewN n := by
  by_cases h0 : hi = 0
  · subst h0
    have := div64_zero lo y w (by omega) hlo
    rw [Nat.zero_mul, Nat.zero_add]
    exact this
  · refine (div64_pos hi lo y w hlt (by omega) hy hlo).mono ?_
    rintro e w' ⟨he, rfl⟩
    exact ⟨he, 0, rfl⟩
end Go.Proofs.YtpphfeinmmmckaaDoor
