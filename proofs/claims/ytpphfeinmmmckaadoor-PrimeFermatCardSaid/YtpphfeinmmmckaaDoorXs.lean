/-
  Plain: three primes of a number, one of the two least of them special: the check of one special prime x, over all the others.
-/
import Derived.Test.YtpphfeinmmmckaaDoorMHalf
namespace Go.Proofs.YtpphfeinmmmckaaDoor
open Nt

/-- The two of them in their order. -/
noncomputable def pairX (x rx y : Nat) : Bool :=
  force (Nat.div (Nat.sub y 1) 2) fun ry => Bool.rec (motive := fun _ => Bool) (Bool.rec (motive := fun _ => Bool) (pairC x y rx ry) true (Nat.beq y x)) (pairC y x ry rx) (Nat.blt y x)

noncomputable def kX (x rx y : Nat) : Bool :=
  Bool.rec (motive := fun _ => Bool) (Bool.rec (motive := fun _ => Bool) true (force y (pairX x rx)) (Nat.beq (Nat.gcd prodT8 y) 1)) (force y (pairX x rx)) (Nat.ble y 1448)

/-- A bound of y. -/
noncomputable def topX (x : Nat) : Nat := bif Nat.blt x 2097152 then rootN (Nat.div 9223372036854775808 x) else Nat.succ (Nat.div 9223372036854775808 (Nat.mul x x))
noncomputable def topOk (x h : Nat) : Bool := bif Nat.blt x 2097152 then Nat.ble 9223372036854775808 (Nat.mul x (Nat.mul h h)) else Nat.ble 9223372036854775808 (Nat.mul (Nat.mul x x) h)

/-- What is asked of a special x. -/
noncomputable def xOk (x : Nat) : Bool :=
  Bool.rec (motive := fun _ => Bool) false (Bool.rec (motive := fun _ => Bool) false
    (force (topX x) fun h => Bool.rec (motive := fun _ => Bool) false (force (Nat.div (Nat.div 4294967296 x) 8) fun lo => force (Nat.div (Nat.sub x 1) 2) fun rx => all8 (kX x rx) lo (Nat.succ (Nat.sub (Nat.div h 8) lo))) (topOk x h)) (rest200 tstR x)) (noI tstR x 4)

theorem kX_spec {x rx y : Nat} (h : kX x rx y = true) (hy : Prime y) : pairX x rx y = true := by
  unfold kX at h
  rw [force_eq] at h
  cases hb : Nat.ble y 1448 with
  | true => rw [hb] at h; exact h
  | false =>
    rw [hb] at h
    have h14 : 1449 ≤ y := by
      rcases Nat.lt_or_ge y 1449 with h1 | h1
      · have : Nat.ble y 1448 = true := Nat.ble_eq_true_of_le (by omega)
        rw [this] at hb; cases hb
      · exact h1
    rw [gcdT8 hy h14] at h
    exact h

/-- The head of the check, and one part of it. -/
noncomputable def xHead (x : Nat) : Bool := noI tstR x 4 && (rest200 tstR x && topOk x (topX x))
noncomputable def xPart (x lo n : Nat) : Bool := force (Nat.div (Nat.sub x 1) 2) fun rx => all8 (kX x rx) lo n

/-- What the check says. -/
structure XP (x : Nat) : Prop where
  head : xHead x = true
  all : ∀ y, y % 2 = 1 → (∀ l ∈ oddB, y % l ≠ 0) → 4294967296 / x / 8 ≤ y / 8 → y / 8 ≤ topX x / 8 → kX x ((x - 1) / 2) y = true

theorem xp_of {x : Nat} (h : xOk x = true) : XP x := by
  unfold xOk at h
  cases h4 : noI tstR x 4 with
  | false => rw [h4] at h; cases h
  | true =>
    rw [h4] at h
    cases hr : rest200 tstR x with
    | false => rw [hr] at h; cases h
    | true =>
      rw [hr] at h
      have h1 : (force (topX x) fun h => Bool.rec (motive := fun _ => Bool) false (force (Nat.div (Nat.div 4294967296 x) 8) fun lo => force (Nat.div (Nat.sub x 1) 2) fun rx => all8 (kX x rx) lo (Nat.succ (Nat.sub (Nat.div h 8) lo))) (topOk x h)) = true := h
      rw [force_eq, force_eq, force_eq] at h1
      cases ht : topOk x (topX x) with
      | false => rw [ht] at h1; cases h1
      | true =>
        rw [ht] at h1
        have h2 : all8 (kX x ((x - 1) / 2)) (4294967296 / x / 8) (topX x / 8 - 4294967296 / x / 8 + 1) = true := h1
        refine ⟨by unfold xHead; rw [h4, hr, ht]; rfl, fun y ho hl h3 h5 => all8_spec h2 ho hl h3 (by omega)⟩

theorem xPart_spec {x lo n y : Nat} (h : xPart x lo n = true) (ho : y % 2 = 1) (hl : ∀ l ∈ oddB, y % l ≠ 0) (h1 : lo ≤ y / 8) (h2 : y / 8 < lo + n) : kX x ((x - 1) / 2) y = true := by
  unfold xPart at h
  rw [force_eq] at h
  exact all8_spec h ho hl h1 h2

/-- Nothing has x among its two least of three primes. -/
theorem xp_spec {x y w s d : Nat} (h : XP x) (H : Pass (x * y * w) s d) (hn63 : x * y * w < 9223372036854775808) (hx : Prime x) (hy : Prime y) (hxy : x ≠ y) (hx16 : 65537 ≤ x) (hxB : x < 536870912) (hy41 : 41 ≤ y)
    (hyh : (y - 1) / 2 ∣ x * y * w - 1) (hxw : x < w) (hyw : y < w) (h32 : 4294967296 ≤ x * y) : False := by
  have hxo := prime_is_odd hx (by omega)
  have hyo := prime_is_odd hy (by omega)
  have hxn : x ∣ x * y * w := ⟨y * w, by rw [Nat.mul_assoc]⟩
  obtain ⟨hh, hall⟩ := h
  unfold xHead at hh
  rw [Bool.and_eq_true, Bool.and_eq_true] at hh
  obtain ⟨h4, hr, ht⟩ := hh
  obtain ⟨I, hI, hI1, hI2⟩ := index_near thrI200 H hx hx16 hxn (by omega) (by omega)
  have hkx := kills_prime H hx (by omega) hxn
  have hxh : (x - 1) / 2 ∣ x * y * w - 1 := by
    refine half_of hxo hI (only_two hI1 (fun h => noI_not (tstR_hT x) (by omega) h4 hkx hI h (by omega)) fun l hl hl2 hd => ?_)
    have := Nat.le_of_dvd (by omega) hd
    exact rest200_not (tstR_hT x) (by omega) hr hkx hI hd hl hl2 (by omega)
  have hlo : 4294967296 / x ≤ y := by
    have h3 : 4294967296 / x ≤ x * y / x := Nat.div_le_div_right h32
    rwa [Nat.mul_div_cancel_left _ (by omega)] at h3
  have hhi : y < topX x := by
    unfold topOk at ht
    obtain ⟨h0, hh0⟩ : ∃ h0, h0 = topX x := ⟨_, rfl⟩
    rw [← hh0] at ht ⊢
    rcases Nat.lt_or_ge y h0 with h3 | h3
    · exact h3
    · exfalso
      cases hb : Nat.blt x 2097152 with
      | true =>
        rw [hb, cond_true] at ht
        have h5 : 9223372036854775808 ≤ x * (h0 * h0) := Nat.le_of_ble_eq_true ht
        have h6 : x * (h0 * h0) ≤ x * (y * w) := Nat.mul_le_mul_left _ (Nat.mul_le_mul h3 (by omega))
        rw [← Nat.mul_assoc x y w] at h6
        omega
      | false =>
        rw [hb, cond_false] at ht
        have h5 : 9223372036854775808 ≤ x * x * h0 := Nat.le_of_ble_eq_true ht
        have h6 : x * x * h0 ≤ x * w * y := Nat.mul_le_mul (Nat.mul_le_mul_left _ (by omega)) h3
        have h7 : x * w * y = x * y * w := by ac_rfl
        omega
  have h3 := kX_spec (hall y hyo (fun l hl => by have := oddB_lt l hl; exact prime_mod_ne hy this.1 (by omega)) (Nat.div_le_div_right hlo) (Nat.div_le_div_right (by omega))) hy
  unfold pairX at h3
  rw [force_eq] at h3
  cases hb : Nat.blt y x with
  | true =>
    rw [hb] at h3
    have hlt : y < x := Nat.le_of_ble_eq_true hb
    have h5 : pairC y x ((y - 1) / 2) ((x - 1) / 2) = true := h3
    have e : y * x * w = x * y * w := by ac_rfl
    refine pairC_spec (a := y) (b := x) (w := w) (s := s) (d := d) h5 (by omega) hlt hxw (by omega) (by omega) ⟨2, by omega⟩ ⟨2, by omega⟩ ?_ ?_ ?_ ?_
    · rw [e]; exact hn63
    · rw [e]; exact hyh
    · rw [e]; exact hxh
    · rw [e]; exact H
  | false =>
    rw [hb] at h3
    have hge : ¬ y < x := fun hlt => by
      have : Nat.blt y x = true := Nat.ble_eq_true_of_le hlt
      rw [this] at hb; cases hb
    have hbe : Nat.beq y x = false := by
      rcases hbb : Nat.beq y x with _ | _
      · rfl
      · exact absurd (Nat.eq_of_beq_eq_true hbb).symm hxy
    rw [hbe] at h3
    have h5 : pairC x y ((x - 1) / 2) ((y - 1) / 2) = true := h3
    exact pairC_spec h5 (by omega) (by omega) hyw (by omega) (by omega) ⟨2, by omega⟩ ⟨2, by omega⟩ hn63 hxh hyh H

/-- u stands in the list. -/
noncomputable def memB (L : List Nat) (u : Nat) : Bool := List.rec (motive := fun _ => Bool) false (fun x _ ih => Bool.rec (motive := fun _ => Bool) ih true (Nat.beq x u)) L
theorem memB_spec {u : Nat} : ∀ {L : List Nat}, memB L u = true → u ∈ L
  | [], h => by cases h
  | x :: L, h => by
    have h' : Bool.rec (motive := fun _ => Bool) (memB L u) true (Nat.beq x u) = true := h
    cases hb : Nat.beq x u with
    | true => rw [Nat.eq_of_beq_eq_true hb]; simp
    | false => rw [hb] at h'; exact List.mem_cons_of_mem _ (memB_spec (L := L) h')

/-- A special prime stands in the list. -/
noncomputable def kL (L : List Nat) (u : Nat) : Bool := Bool.rec (motive := fun _ => Bool) true (force u fun u => Bool.rec (motive := fun _ => Bool) true (memB L u) (Nat.beq (pow3 2 (Nat.sub u 1) u) 1)) (Nat.beq (Nat.gcd prodQ u) 1)
theorem kL_spec {L : List Nat} {u : Nat} (h : kL L u = true) (hu : Prime u) (h15 : 15000 ≤ u) : u ∈ L := by
  unfold kL at h
  rw [gcdQ hu h15, force_eq, pow3_fermat hu (by omega)] at h
  exact memB_spec h

/-- All of a list. -/
noncomputable def allX (L : List Nat) : Bool := List.rec (motive := fun _ => Bool) true (fun x _ ih => Bool.rec (motive := fun _ => Bool) false ih (xOk x)) L
theorem allX_spec : ∀ {L : List Nat}, allX L = true → ∀ x ∈ L, XP x
  | [], _, x, hx => by simp at hx
  | y :: L, h, x, hx => by
    have h' : Bool.rec (motive := fun _ => Bool) false (allX L) (xOk y) = true := h
    cases hb : xOk y with
    | false => rw [hb] at h'; cases h'
    | true =>
      rw [hb] at h'
      rcases List.mem_cons.1 hx with rfl | hx
      · exact xp_of hb
      · exact allX_spec (L := L) h' x hx
end Go.Proofs.YtpphfeinmmmckaaDoor
