/-
  Plain: pairs of primes; indexes.
-/
import Derived.Test.YtpphfeinmmmckaaDoorMFar
import Derived.Test.YtpphfeinmmmckaaDoorMTri
/- PairC: Plain: two primes a < b of a number of three, with what divides a - 1, b - 1 and n - 1: the check that no third prime follows. -/
namespace Go.Proofs.YtpphfeinmmmckaaDoor
open Nt

/-- What is asked of a third prime m. -/
noncomputable def lastC (a b m : Nat) : Bool := Nat.ble m b || force (Nat.mul (Nat.mul a b) m) sfail

/-- All m = m0 + rb i, n of them. -/
noncomputable def loopC (a b ra rb m0 : Nat) (n : Nat) : Bool :=
  Nat.rec (motive := fun _ => Bool) true (fun i ih => Bool.rec (motive := fun _ => Bool) ih (Bool.rec (motive := fun _ => Bool) false ih (lastC a b (Nat.add m0 (Nat.mul rb i)))) (Nat.beq (Nat.mod (Nat.mul b (Nat.add m0 (Nat.mul rb i))) ra) 1)) n

theorem loopC_spec {a b ra rb m0 : Nat} : ∀ {n : Nat}, loopC a b ra rb m0 n = true → ∀ i, i < n → b * (m0 + rb * i) % ra = 1 → lastC a b (m0 + rb * i) = true
  | 0, _, i, hi, _ => absurd hi (Nat.not_lt_zero _)
  | n + 1, h, i, hi, hg => by
    have h' : Bool.rec (motive := fun _ => Bool) (loopC a b ra rb m0 n) (Bool.rec (motive := fun _ => Bool) false (loopC a b ra rb m0 n) (lastC a b (Nat.add m0 (Nat.mul rb n)))) (Nat.beq (Nat.mod (Nat.mul b (Nat.add m0 (Nat.mul rb n))) ra) 1) = true := h
    cases hb : Nat.beq (Nat.mod (Nat.mul b (Nat.add m0 (Nat.mul rb n))) ra) 1 with
    | false =>
      rw [hb] at h'
      rcases Nat.lt_succ_iff_lt_or_eq.1 hi with h1 | rfl
      · exact loopC_spec (n := n) h' i h1 hg
      · exfalso
        have : Nat.mod (Nat.mul b (Nat.add m0 (Nat.mul rb i))) ra = 1 := hg
        rw [this] at hb; cases hb
    | true =>
      rw [hb] at h'
      cases hc : lastC a b (Nat.add m0 (Nat.mul rb n)) with
      | false => rw [hc] at h'; cases h'
      | true =>
        rw [hc] at h'
        rcases Nat.lt_succ_iff_lt_or_eq.1 hi with h1 | rfl
        · exact loopC_spec (n := n) h' i h1 hg
        · exact hc

/-- Euclid's rule: a number u with u x = g or - g modulo y, g the greatest common divisor. -/
noncomputable def eu (f : Nat) : Nat → Nat → Nat → Nat → Nat :=
  Nat.rec (motive := fun _ => Nat → Nat → Nat → Nat → Nat) (fun _ _ t0 _ => t0)
    (fun _ ih r0 r1 t0 t1 => Bool.rec (motive := fun _ => Nat) (force (Nat.mod r0 r1) fun r2 => force (Nat.add t0 (Nat.mul (Nat.div r0 r1) t1)) fun t2 => ih r1 r2 t1 t2) t0 (Nat.beq r1 0)) f

/-- All i up to c with b (m0 + rb i) = 1 modulo ra; u b rb = g modulo ra. -/
noncomputable def pairU (a b ra rb m0 c g X u : Nat) : Bool :=
  Bool.rec (motive := fun _ => Bool) false
    (force (Nat.mod (Nat.add u (Nat.mul u (Nat.sub ra (Nat.mod (Nat.mul b m0) ra)))) ra) fun z => Bool.rec (motive := fun _ => Bool) true
      (force (Nat.div ra g) fun R => force (Nat.mod (Nat.div z g) R) fun k => Bool.rec (motive := fun _ => Bool)
        (loopC a b ra (Nat.mul rb R) (Nat.add m0 (Nat.mul rb k)) (Nat.succ (Nat.div (Nat.sub c k) R))) true (Nat.blt c k))
      (Nat.beq (Nat.mod z g) 0))
    (Nat.beq (Nat.mod (Nat.mul u X) ra) (Nat.mod g ra))

noncomputable def pairE (a b ra rb m0 c : Nat) : Bool :=
  force (Nat.mod (Nat.mul b rb) ra) fun X => force (Nat.gcd X ra) fun g => force (eu 64 ra X 0 1) fun u =>
    Bool.rec (motive := fun _ => Bool) (pairU a b ra rb m0 c g X (Nat.sub ra u)) (pairU a b ra rb m0 c g X u) (Nat.beq (Nat.mod (Nat.mul u X) ra) (Nat.mod g ra))

noncomputable def pairB (a b ra rb M m0 : Nat) : Bool :=
  force (Nat.div (Nat.sub M m0) rb) fun c => Bool.rec (motive := fun _ => Bool) (loopC a b ra rb m0 (Nat.succ c)) (pairE a b ra rb m0 c) (Nat.blt 16 c)

theorem pairU_spec {a b ra rb m0 c g X u i : Nat} (hra : 2 ≤ ra) (hg : g = Nat.gcd X ra) (hX : X = b * rb % ra) (h : pairU a b ra rb m0 c g X u = true) (hi : i ≤ c) (h1 : b * (m0 + rb * i) % ra = 1) : lastC a b (m0 + rb * i) = true := by
  unfold pairU at h
  cases hb : Nat.beq (Nat.mod (Nat.mul u X) ra) (Nat.mod g ra) with
  | false => rw [hb] at h; cases h
  | true =>
    rw [hb] at h
    have h2 : u * X % ra = g % ra := Nat.eq_of_beq_eq_true hb
    obtain ⟨z, hz⟩ : ∃ z, z = (u + u * (ra - b * m0 % ra)) % ra := ⟨_, rfl⟩
    have h3 : (force ((u + u * (ra - b * m0 % ra)) % ra) fun z => Bool.rec (motive := fun _ => Bool) true
      (force (Nat.div ra g) fun R => force (Nat.mod (Nat.div z g) R) fun k => Bool.rec (motive := fun _ => Bool)
        (loopC a b ra (Nat.mul rb R) (Nat.add m0 (Nat.mul rb k)) (Nat.succ (Nat.div (Nat.sub c k) R))) true (Nat.blt c k))
      (Nat.beq (Nat.mod z g) 0)) = true := h
    rw [force_eq, force_eq, force_eq, ← hz] at h3
    have hg0 : 0 < g := by rw [hg]; exact Nat.gcd_pos_of_pos_right _ (by omega)
    obtain ⟨R, hR⟩ : g ∣ ra := by rw [hg]; exact Nat.gcd_dvd_right _ _
    have hRa : Nat.div ra g = R := by rw [hR]; exact Nat.mul_div_cancel_left _ hg0
    rw [hRa] at h3
    have hR0 : 0 < R := by
      rcases R with _ | R
      · omega
      · omega
    -- g i is z modulo ra
    have key : g * i % ra = z % ra := by
      obtain ⟨v, hv⟩ : ∃ v, v = b * m0 % ra := ⟨_, rfl⟩
      have hvl : v < ra := by rw [hv]; exact Nat.mod_lt _ (by omega)
      have e1 : (u * v + u * X * i) % ra = u % ra := by
        have e2 : u * (b * (m0 + rb * i)) % ra = u % ra := by rw [Nat.mul_mod, h1, Nat.mul_one, Nat.mod_mod]
        have e3 : u * (b * (m0 + rb * i)) = u * (b * m0) + u * (b * rb) * i := by
          rw [Nat.mul_add, Nat.mul_add]
          congr 1
          ac_rfl
        rw [e3, Nat.add_mod, Nat.mul_mod u (b * m0), ← hv, Nat.mul_mod (u * (b * rb)) i, Nat.mul_mod u (b * rb), ← hX] at e2
        rw [Nat.add_mod, Nat.mul_mod u v, Nat.mod_eq_of_lt hvl, Nat.mul_mod (u * X) i, Nat.mul_mod u X, Nat.mod_eq_of_lt (show X < ra by rw [hX]; exact Nat.mod_lt _ (by omega))]
        have e4 : X % ra = X := Nat.mod_eq_of_lt (by rw [hX]; exact Nat.mod_lt _ (by omega))
        rw [hX] at e2 ⊢
        exact e2
      have e5 : (u * (ra - v) + (u * v + u * X * i)) % ra = (u * (ra - v) + u) % ra := by
        rw [Nat.add_mod, e1, ← Nat.add_mod]
      have e6 : u * (ra - v) + (u * v + u * X * i) = u * X * i + ra * u := by
        have : u * (ra - v) + u * v = u * ra := by rw [← Nat.mul_add]; congr 1; omega
        rw [Nat.mul_comm ra u]
        omega
      rw [e6, Nat.add_mul_mod_self_left, Nat.mul_mod, h2, ← Nat.mul_mod] at e5
      rw [e5, hz, Nat.mod_mod, ← hv, Nat.add_comm]
    have hgz : z % g = 0 := by
      have hd : g ∣ ra := ⟨R, hR⟩
      have e1 : z % g = g * i % g := by rw [← Nat.mod_mod_of_dvd _ hd, ← key, Nat.mod_mod_of_dvd _ hd]
      rw [e1, Nat.mul_mod_right]
    obtain ⟨y, hy⟩ := Nat.dvd_of_mod_eq_zero hgz
    have b0 : Nat.beq (Nat.mod z g) 0 = true := by
      have : Nat.mod z g = 0 := hgz
      rw [this]; rfl
    rw [b0] at h3
    have hzy : Nat.div z g = y := by rw [hy]; exact Nat.mul_div_cancel_left _ hg0
    rw [hzy] at h3
    have hik : i % R = y % R := by
      rw [hy, hR, Nat.mul_mod_mul_left, Nat.mul_mod_mul_left] at key
      exact Nat.eq_of_mul_eq_mul_left hg0 key
    obtain ⟨k, hk⟩ : ∃ k, k = y % R := ⟨_, rfl⟩
    have ek : Nat.mod y R = k := hk.symm
    rw [ek] at h3
    have hki : i = k + R * (i / R) := by rw [hk, ← hik, Nat.mod_add_div]
    have hkc : ¬ c < k := by
      have : k ≤ i := by rw [hki]; exact Nat.le_add_right _ _
      omega
    rw [blt_false hkc] at h3
    have h4 : loopC a b ra (rb * R) (m0 + rb * k) ((c - k) / R + 1) = true := h3
    have hj : i / R ≤ (c - k) / R := by
      rw [Nat.le_div_iff_mul_le hR0, Nat.mul_comm]; omega
    have em : m0 + rb * k + rb * R * (i / R) = m0 + rb * i := by
      conv => rhs; rw [hki]
      rw [Nat.mul_add rb k, Nat.mul_assoc]
      omega
    have h5 := loopC_spec h4 (i / R) (by omega) (by rw [em]; exact h1)
    rwa [em] at h5

theorem pairE_spec {a b ra rb m0 c i : Nat} (hra : 2 ≤ ra) (h : pairE a b ra rb m0 c = true) (hi : i ≤ c) (h1 : b * (m0 + rb * i) % ra = 1) : lastC a b (m0 + rb * i) = true := by
  unfold pairE at h
  rw [force_eq, force_eq, force_eq] at h
  generalize eu 64 ra (Nat.mod (Nat.mul b rb) ra) 0 1 = u at h
  cases hb : Nat.beq (Nat.mod (Nat.mul u (Nat.mod (Nat.mul b rb) ra)) ra) (Nat.mod (Nat.gcd (Nat.mod (Nat.mul b rb) ra) ra) ra) with
  | true => rw [hb] at h; exact pairU_spec hra rfl rfl h hi h1
  | false => rw [hb] at h; exact pairU_spec hra rfl rfl h hi h1

/-- No prime above b makes a b to a number that passes. -/
noncomputable def pairC (a b ra rb : Nat) : Bool :=
  force (Nat.mod rb a) fun x => Bool.rec (motive := fun _ => Bool)
    (force (Nat.div 9223372036854775808 (Nat.mul a b)) fun M => force (Nat.div (Nat.succ (Nat.mul (Nat.sub a (pow3 x (Nat.sub a 2) a)) rb)) a) fun m0 =>
      Bool.rec (motive := fun _ => Bool) false (Bool.rec (motive := fun _ => Bool) false (pairB a b ra rb M m0) (Nat.ble m0 b)) (Nat.beq (Nat.mod (Nat.mul a m0) rb) 1))
    true (Nat.beq x 0)

theorem dvd_rest {r a x : Nat} (ha : 1 ≤ a) (h1 : r ∣ a - 1) (hx : 1 ≤ x) (h2 : r ∣ a * x - 1) : r ∣ x - 1 := by
  obtain ⟨y, rfl⟩ : ∃ y, a = y + 1 := ⟨a - 1, by omega⟩
  rw [Nat.add_sub_cancel] at h1
  have e : (y + 1) * x - 1 = y * x + (x - 1) := by rw [Nat.add_mul, Nat.one_mul]; omega
  rw [e] at h2
  exact (Nat.dvd_add_right (Nat.dvd_trans h1 (Nat.dvd_mul_right _ _))).1 h2

theorem pairC_spec {a b ra rb w s d : Nat} (h : pairC a b ra rb = true) (ha : 2 ≤ a) (hab : a < b) (hbw : b < w) (hra : 2 ≤ ra) (hrb : 2 ≤ rb) (hda : ra ∣ a - 1) (hdb : rb ∣ b - 1) (hn63 : a * b * w < 9223372036854775808)
    (hna : ra ∣ a * b * w - 1) (hnb : rb ∣ a * b * w - 1) (H : Pass (a * b * w) s d) : False := by
  have hab0 : 0 < a * b := Nat.mul_pos (by omega) (by omega)
  have hbw0 : 1 ≤ b * w := Nat.mul_pos (by omega) (by omega)
  have haw0 : 1 ≤ a * w := Nat.mul_pos (by omega) (by omega)
  have h1 : ra ∣ b * w - 1 := dvd_rest (a := a) (by omega) hda hbw0 (by rw [← Nat.mul_assoc]; exact hna)
  have h2 : rb ∣ a * w - 1 := dvd_rest (a := b) (by omega) hdb haw0 (by
    have e : b * (a * w) = a * b * w := by ac_rfl
    rw [e]; exact hnb)
  have hM : w ≤ 9223372036854775808 / (a * b) := by
    rw [Nat.le_div_iff_mul_le hab0, Nat.mul_comm]; omega
  have hlast : lastC a b w = true → False := by
    intro hl
    unfold lastC at hl
    rw [ble_false (by omega), Bool.false_or, force_eq] at hl
    exact sfail_not hl H
  have mod1 : ∀ r x, 2 ≤ r → 1 ≤ x → r ∣ x - 1 → x % r = 1 := by
    intro r x hr hx hd
    obtain ⟨u, hu⟩ := hd
    have e : x = 1 + r * u := by omega
    rw [e, Nat.add_mul_mod_self_left, Nat.mod_eq_of_lt (by omega)]
  have haw1 := mod1 rb (a * w) hrb haw0 h2
  unfold pairC at h
  rw [force_eq] at h
  cases hx0 : Nat.beq (Nat.mod rb a) 0 with
  | true =>
    have h3 : rb % a = 0 := Nat.eq_of_beq_eq_true hx0
    have h4 : a ∣ rb := Nat.dvd_of_mod_eq_zero h3
    have h5 : a ∣ a * w - 1 := Nat.dvd_trans h4 h2
    have h6 : a ∣ a * w - (a * w - 1) := Nat.dvd_sub (Nat.dvd_mul_right _ _) h5
    rw [show a * w - (a * w - 1) = 1 by omega] at h6
    have := Nat.le_of_dvd (by omega) h6
    omega
  | false =>
    rw [hx0] at h
    have h' : (force (Nat.div 9223372036854775808 (Nat.mul a b)) fun M => force (Nat.div (Nat.succ (Nat.mul (Nat.sub a (pow3 (Nat.mod rb a) (Nat.sub a 2) a)) rb)) a) fun m0 =>
      Bool.rec (motive := fun _ => Bool) false (Bool.rec (motive := fun _ => Bool) false (pairB a b ra rb M m0) (Nat.ble m0 b)) (Nat.beq (Nat.mod (Nat.mul a m0) rb) 1)) = true := h
    rw [force_eq, force_eq] at h'
    generalize Nat.div (Nat.succ (Nat.mul (Nat.sub a (pow3 (Nat.mod rb a) (Nat.sub a 2) a)) rb)) a = m0 at h'
    obtain ⟨M, hMe⟩ : ∃ M, M = 9223372036854775808 / (a * b) := ⟨_, rfl⟩
    have eM : Nat.div 9223372036854775808 (Nat.mul a b) = M := hMe.symm
    rw [eM] at h'
    rw [← hMe] at hM
    cases hc1 : Nat.beq (Nat.mod (Nat.mul a m0) rb) 1 with
    | false => rw [hc1] at h'; cases h'
    | true =>
      rw [hc1] at h'
      cases hc2 : Nat.ble m0 b with
      | false => rw [hc2] at h'; cases h'
      | true =>
        rw [hc2] at h'
        have h3 : a * m0 % rb = 1 := Nat.eq_of_beq_eq_true hc1
        have h4 : m0 ≤ b := Nat.le_of_ble_eq_true hc2
        have h5 : pairB a b ra rb M m0 = true := h'
        unfold pairB at h5
        rw [force_eq] at h5
        -- w is m0 modulo rb
        have e1 : w % rb = m0 % rb := by
          have e2 : w * (a * m0) % rb = w % rb := by rw [Nat.mul_mod, h3, Nat.mul_one, Nat.mod_mod]
          have e3 : m0 * (a * w) % rb = m0 % rb := by rw [Nat.mul_mod, haw1, Nat.mul_one, Nat.mod_mod]
          rw [← e2, ← e3]
          congr 1
          ac_rfl
        have h7 : rb ∣ w - m0 := mod_eq_dvd e1 (by omega)
        obtain ⟨k, hk⟩ := h7
        have ew : w = m0 + rb * k := by omega
        have hkn : k ≤ (M - m0) / rb := by
          rw [Nat.le_div_iff_mul_le (by omega), Nat.mul_comm]; omega
        have hw1 : b * (m0 + rb * k) % ra = 1 := by rw [← ew]; exact mod1 ra (b * w) hra hbw0 h1
        cases hc3 : Nat.blt 16 (Nat.div (Nat.sub M m0) rb) with
        | true =>
          rw [hc3] at h5
          have h6 : pairE a b ra rb m0 ((M - m0) / rb) = true := h5
          have h8 := pairE_spec hra h6 hkn hw1
          rw [← ew] at h8
          exact hlast h8
        | false =>
          rw [hc3] at h5
          have h6 : loopC a b ra rb m0 ((M - m0) / rb + 1) = true := h5
          have h8 := loopC_spec h6 k (by omega) hw1
          rw [← ew] at h8
          exact hlast h8
end Go.Proofs.YtpphfeinmmmckaaDoor

/- Half: Plain: the index of a prime below 474400000, mostly 1 or 2; half of y - 1 divides n - 1 for primes y of n below 11863283 (halfgen.py prints this text). -/
namespace Go.Proofs.YtpphfeinmmmckaaDoor
open Nt
set_option maxRecDepth 100000

/-- Some base's power is not 1. -/
noncomputable def tstR (p e : Nat) : Bool := List.rec (motive := fun _ => Bool) false (fun b _ ih => Bool.rec (motive := fun _ => Bool) true ih (Nat.beq (pow3 b e p) 1)) baseL
theorem tstR_not {p e : Nat} (h : tstR p e = true) : ¬ Kills e p := by
  have key : ∀ L : List Nat, (∀ b ∈ L, b ∈ baseL) → List.rec (motive := fun _ => Bool) false (fun b _ ih => Bool.rec (motive := fun _ => Bool) true ih (Nat.beq (pow3 b e p) 1)) L = true → Kills e p → False := by
    intro L
    induction L with
    | nil => intro _ h _; cases h
    | cons b L ih =>
      intro hL h hk
      have e1 : pow3 b e p = 1 := by rw [pow3_eq]; exact hk b (hL b (by simp))
      have h' : Bool.rec (motive := fun _ => Bool) true (List.rec (motive := fun _ => Bool) false (fun b _ ih => Bool.rec (motive := fun _ => Bool) true ih (Nat.beq (pow3 b e p) 1)) L) (Nat.beq (pow3 b e p) 1) = true := h
      rw [e1] at h'
      exact ih (fun c hc => hL c (List.mem_cons_of_mem _ hc)) h' hk
  exact key baseL (fun _ hb => hb) h
theorem tstR_hT (q : Nat) : ∀ e, tstR q e = true → ¬ Kills e q := fun _ h => tstR_not h

def hAP : Nat := 7429
def hAG : List (Nat × List Nat) := [(7429, [17, 19, 23])]
theorem hA_ok : okGrp hAP 289 hAG = true := by decide +kernel
def hBP : Nat := 899
def hBG : List (Nat × List Nat) := [(899, [29, 31])]
theorem hB_ok : okGrp hBP 841 hBG = true := by decide +kernel
def hCP : Nat := 146078888479
def hCG : List (Nat × List Nat) := [(146078888479, [29, 31, 37, 41, 43, 47, 53])]
theorem hC_ok : okGrp hCP 841 hCG = true := by decide +kernel
def hDP : Nat := 45787692001427239262037644830335449017
def hDG : List (Nat × List Nat) := [(98733594781, [59, 61, 67, 71, 73, 79]), (797594608219, [83, 89, 97, 101, 103, 107]), (581435566170103, [109, 113, 127, 131, 137, 139, 149])]
theorem hD_ok : okGrp hDP 3481 hDG = true := by decide +kernel
def hEP : Nat := 5227190923933438306919441
def hEG : List (Nat × List Nat) := [(111641786731, [151, 157, 163, 167, 173]), (46821096983411, [179, 181, 191, 193, 197, 199])]
theorem hE_ok : okGrp hEP 22801 hEG = true := by decide +kernel
/-- No odd prime up to 33 divides the index. -/
noncomputable def rest33 (T : Nat → Nat → Bool) (w : Nat) : Bool := Bool.rec (motive := fun _ => Bool) false (Bool.rec (motive := fun _ => Bool) false (Bool.rec (motive := fun _ => Bool) false (Bool.rec (motive := fun _ => Bool) false (Bool.rec (motive := fun _ => Bool) false (Bool.rec (motive := fun _ => Bool) false (Bool.rec (motive := fun _ => Bool) false (true) (noIP T w hBP 841 hBG)) (noIP T w hAP 289 hAG)) (noI T w 13)) (noI T w 11)) (noI T w 7)) (noI T w 5)) (noI T w 3)
theorem rest33_all {T : Nat → Nat → Bool} {w : Nat} (h : rest33 T w = true) : noI T w 3 = true ∧ noI T w 5 = true ∧ noI T w 7 = true ∧ noI T w 11 = true ∧ noI T w 13 = true ∧ noIP T w hAP 289 hAG = true ∧ noIP T w hBP 841 hBG = true := by
  unfold rest33 at h
  revert h
  cases noI T w 3
  · intro h; cases h
  cases noI T w 5
  · intro h; cases h
  cases noI T w 7
  · intro h; cases h
  cases noI T w 11
  · intro h; cases h
  cases noI T w 13
  · intro h; cases h
  cases noIP T w hAP 289 hAG
  · intro h; cases h
  cases noIP T w hBP 841 hBG
  · intro h; cases h
  intro _; simp
def rest33In (l : Nat) : Bool := Nat.beq l 3 || Nat.beq l 5 || Nat.beq l 7 || Nat.beq l 11 || Nat.beq l 13 || (Nat.beq (Nat.mod hAP l) 0 && inG hAG l) || (Nat.beq (Nat.mod hBP l) 0 && inG hBG l)
theorem rest33In_all : coverF rest33In 32 = true := by decide +kernel
theorem rest33_not {T : Nat → Nat → Bool} {w l r I : Nat} (hT : ∀ e, T w e = true → ¬ Kills e w) (hw : 2 ≤ w) (h : rest33 T w = true) (hk : Kills r w) (hI : w - 1 = r * I) (hl : l ∣ I) (hlp : Prime l) (hl2 : l ≠ 2) (hlt : l < 34) : False := by
  have hin := coverF_spec rest33In_all hlp hl2 (by omega)
  obtain ⟨a0, a1, a2, a3, a4, a5, a6⟩ := rest33_all h
  unfold rest33In at hin
  simp only [Bool.or_eq_true, Bool.and_eq_true] at hin
  rcases hin with (((((b | b) | b) | b) | b) | b) | b
  · have e := Nat.eq_of_beq_eq_true b; subst e; exact noI_not hT hw a0 hk hI hl (by omega)
  · have e := Nat.eq_of_beq_eq_true b; subst e; exact noI_not hT hw a1 hk hI hl (by omega)
  · have e := Nat.eq_of_beq_eq_true b; subst e; exact noI_not hT hw a2 hk hI hl (by omega)
  · have e := Nat.eq_of_beq_eq_true b; subst e; exact noI_not hT hw a3 hk hI hl (by omega)
  · have e := Nat.eq_of_beq_eq_true b; subst e; exact noI_not hT hw a4 hk hI hl (by omega)
  · exact noIP_not hT hw a5 hA_ok b.2 (Nat.eq_of_beq_eq_true b.1) hk hI hl hlp
  · exact noIP_not hT hw a6 hB_ok b.2 (Nat.eq_of_beq_eq_true b.1) hk hI hl hlp
/-- No odd prime up to 199 divides the index. -/
noncomputable def rest200 (T : Nat → Nat → Bool) (w : Nat) : Bool := Bool.rec (motive := fun _ => Bool) false (Bool.rec (motive := fun _ => Bool) false (Bool.rec (motive := fun _ => Bool) false (Bool.rec (motive := fun _ => Bool) false (Bool.rec (motive := fun _ => Bool) false (Bool.rec (motive := fun _ => Bool) false (Bool.rec (motive := fun _ => Bool) false (Bool.rec (motive := fun _ => Bool) false (Bool.rec (motive := fun _ => Bool) false (true) (noIP T w hEP 22801 hEG)) (noIP T w hDP 3481 hDG)) (noIP T w hCP 841 hCG)) (noIP T w hAP 289 hAG)) (noI T w 13)) (noI T w 11)) (noI T w 7)) (noI T w 5)) (noI T w 3)
theorem rest200_all {T : Nat → Nat → Bool} {w : Nat} (h : rest200 T w = true) : noI T w 3 = true ∧ noI T w 5 = true ∧ noI T w 7 = true ∧ noI T w 11 = true ∧ noI T w 13 = true ∧ noIP T w hAP 289 hAG = true ∧ noIP T w hCP 841 hCG = true ∧ noIP T w hDP 3481 hDG = true ∧ noIP T w hEP 22801 hEG = true := by
  unfold rest200 at h
  revert h
  cases noI T w 3
  · intro h; cases h
  cases noI T w 5
  · intro h; cases h
  cases noI T w 7
  · intro h; cases h
  cases noI T w 11
  · intro h; cases h
  cases noI T w 13
  · intro h; cases h
  cases noIP T w hAP 289 hAG
  · intro h; cases h
  cases noIP T w hCP 841 hCG
  · intro h; cases h
  cases noIP T w hDP 3481 hDG
  · intro h; cases h
  cases noIP T w hEP 22801 hEG
  · intro h; cases h
  intro _; simp
def rest200In (l : Nat) : Bool := Nat.beq l 3 || Nat.beq l 5 || Nat.beq l 7 || Nat.beq l 11 || Nat.beq l 13 || (Nat.beq (Nat.mod hAP l) 0 && inG hAG l) || (Nat.beq (Nat.mod hCP l) 0 && inG hCG l) || (Nat.beq (Nat.mod hDP l) 0 && inG hDG l) || (Nat.beq (Nat.mod hEP l) 0 && inG hEG l)
theorem rest200In_all : coverF rest200In 198 = true := by decide +kernel
theorem rest200_not {T : Nat → Nat → Bool} {w l r I : Nat} (hT : ∀ e, T w e = true → ¬ Kills e w) (hw : 2 ≤ w) (h : rest200 T w = true) (hk : Kills r w) (hI : w - 1 = r * I) (hl : l ∣ I) (hlp : Prime l) (hl2 : l ≠ 2) (hlt : l < 200) : False := by
  have hin := coverF_spec rest200In_all hlp hl2 (by omega)
  obtain ⟨a0, a1, a2, a3, a4, a5, a6, a7, a8⟩ := rest200_all h
  unfold rest200In at hin
  simp only [Bool.or_eq_true, Bool.and_eq_true] at hin
  rcases hin with (((((((b | b) | b) | b) | b) | b) | b) | b) | b
  · have e := Nat.eq_of_beq_eq_true b; subst e; exact noI_not hT hw a0 hk hI hl (by omega)
  · have e := Nat.eq_of_beq_eq_true b; subst e; exact noI_not hT hw a1 hk hI hl (by omega)
  · have e := Nat.eq_of_beq_eq_true b; subst e; exact noI_not hT hw a2 hk hI hl (by omega)
  · have e := Nat.eq_of_beq_eq_true b; subst e; exact noI_not hT hw a3 hk hI hl (by omega)
  · have e := Nat.eq_of_beq_eq_true b; subst e; exact noI_not hT hw a4 hk hI hl (by omega)
  · exact noIP_not hT hw a5 hA_ok b.2 (Nat.eq_of_beq_eq_true b.1) hk hI hl hlp
  · exact noIP_not hT hw a6 hC_ok b.2 (Nat.eq_of_beq_eq_true b.1) hk hI hl hlp
  · exact noIP_not hT hw a7 hD_ok b.2 (Nat.eq_of_beq_eq_true b.1) hk hI hl hlp
  · exact noIP_not hT hw a8 hE_ok b.2 (Nat.eq_of_beq_eq_true b.1) hk hI hl hlp

/-- The index of a prime below B. -/
theorem index_near {B K n s d w : Nat} (hB : ∀ e ∈ thrL, e.W < B → e.V ≤ K * e.c) (H : Pass n s d) (hw : Prime w) (h16 : 65537 ≤ w) (hwn : w ∣ n) (hwB : w ≤ B) (h32 : B < 4294967296) : ∃ I, w - 1 = Nat.gcd (w - 1) (n - 1) * I ∧ 1 ≤ I ∧ I < K := by
  obtain ⟨r, hr⟩ : ∃ r, r = Nat.gcd (w - 1) (n - 1) := ⟨_, rfl⟩
  have hr1 := (rank_even H hw (by omega)).2
  obtain ⟨E, hE, hE1, hE2⟩ := thrL_cov w (by omega) (by omega)
  obtain ⟨X, hX⟩ := thrL_ok E hE
  have hcr := thr_le hX H hw (by omega) hwn hE1
  rw [← hr] at hcr hr1 ⊢
  obtain ⟨I, hI⟩ : r ∣ w - 1 := hr ▸ Nat.gcd_dvd_left _ _
  refine ⟨I, hI, ?_, ?_⟩
  · rcases I with _ | I
    · rw [Nat.mul_zero] at hI; omega
    · omega
  · have h1 : I * E.c ≤ I * r := Nat.mul_le_mul_left _ hcr
    have h2 := hB E hE (by omega)
    rw [Nat.mul_comm I r] at h1
    have h3 : I * E.c < K * E.c := by omega
    exact Nat.lt_of_mul_lt_mul_right h3

theorem thrI33 : ∀ e ∈ thrL, e.W < 11863283 → e.V ≤ 33 * e.c := by decide +kernel
theorem thrI200 : ∀ e ∈ thrL, e.W < 536870912 → e.V ≤ 200 * e.c := by decide +kernel

/-- The index 1 or 2: half of w - 1 divides. -/
theorem half_of {n w I : Nat} (ho : w % 2 = 1) (hI : w - 1 = Nat.gcd (w - 1) (n - 1) * I) (h : I = 1 ∨ I = 2) : (w - 1) / 2 ∣ n - 1 := by
  obtain ⟨r, hr⟩ : ∃ r, r = Nat.gcd (w - 1) (n - 1) := ⟨_, rfl⟩
  have hrn : r ∣ n - 1 := by rw [hr]; exact Nat.gcd_dvd_right _ _
  rw [← hr] at hI
  refine Nat.dvd_trans ?_ hrn
  rcases h with h | h
  · rw [h, Nat.mul_one] at hI
    exact ⟨2, by omega⟩
  · rw [h] at hI
    exact ⟨1, by omega⟩

/-- What is asked of a prime y. -/
noncomputable def kHalf (y : Nat) : Bool := Bool.rec (motive := fun _ => Bool) true (force y fun y => Bool.rec (motive := fun _ => Bool) false (rest33 tstR y) (noI tstR y 4)) (Nat.beq (Nat.gcd prodQ y) 1)

theorem half_prime {n s d y : Nat} (H : Pass n s d) (hy : Prime y) (h41 : 41 ≤ y) (hyn : y ∣ n) (hyB : y < 11863283) (hK : 65537 ≤ y → kHalf y = true) : (y - 1) / 2 ∣ n - 1 := by
  have ho := prime_is_odd hy (by omega)
  rcases Nat.lt_or_ge y 65537 with h | h
  · have hf := (checks.full y hy h41 h).1
    have h1 : (y - 1) ∣ n - 1 := hf _ fun b hb => by
      have h1 := mod_of_dvd hyn (show b ^ (n - 1) % n = 1 % n by rw [H.fer b hb, Nat.mod_eq_of_lt (by have := H.two; omega)])
      rw [h1, Nat.mod_eq_of_lt (by omega)]
    exact Nat.dvd_trans ⟨2, by omega⟩ h1
  · have hk := hK h
    unfold kHalf at hk
    rw [gcdQ hy (by omega), force_eq] at hk
    have hk' : Bool.rec (motive := fun _ => Bool) false (rest33 tstR y) (noI tstR y 4) = true := hk
    obtain ⟨I, hI, hI1, hI2⟩ := index_near thrI33 H hy h hyn (by omega) (by omega)
    have hky := kills_prime H hy (by omega) hyn
    cases h4 : noI tstR y 4 with
    | false => rw [h4] at hk'; cases hk'
    | true =>
      rw [h4] at hk'
      have hr : rest33 tstR y = true := hk'
      refine half_of ho hI (only_two hI1 (fun h => noI_not (tstR_hT y) (by omega) h4 hky hI h (by omega)) fun l hl hl2 hd => ?_)
      have := Nat.le_of_dvd (by omega) hd
      exact rest33_not (tstR_hT y) (by omega) hr hky hI hd hl hl2 (by omega)

/-- Where not all characters are 1, the half is the whole. -/
theorem whole_prime {n s d y : Nat} (H : Pass n s d) (hy : Prime y) (h41 : 41 ≤ y) (hyn : y ∣ n) (hh : (y - 1) / 2 ∣ n - 1) (hns : ¬ (y % 8 = 1 ∧ ∀ l ∈ oddB, y % l ≠ 0 ∧ leg l (y % l) = true)) : (y - 1) ∣ n - 1 := by
  have ho := prime_is_odd hy (by omega)
  obtain ⟨r, hr⟩ : ∃ r, r = Nat.gcd (y - 1) (n - 1) := ⟨_, rfl⟩
  obtain ⟨hre, hr1⟩ := rank_even H hy (by omega)
  have hk := kills_prime H hy (by omega) hyn
  have hhr : (y - 1) / 2 ∣ r := by rw [hr]; exact Nat.dvd_gcd ⟨2, by omega⟩ hh
  rw [← hr] at hre hr1 hk
  obtain ⟨k, hk1⟩ := hhr
  obtain ⟨m, hm⟩ : r ∣ y - 1 := by rw [hr]; exact Nat.gcd_dvd_left _ _
  have hrn : r ∣ n - 1 := by rw [hr]; exact Nat.gcd_dvd_right _ _
  obtain ⟨z, hz⟩ : ∃ z, z = (y - 1) / 2 := ⟨_, rfl⟩
  rw [← hz] at hk1 hh
  have hyz : y - 1 = 2 * z := by omega
  have hz0 : 0 < z := by omega
  have hkm : k * m = 2 := by
    have h1 : z * (k * m) = z * 2 := by rw [← Nat.mul_assoc, ← hk1, ← hm, hyz, Nat.mul_comm]
    exact Nat.eq_of_mul_eq_mul_left hz0 h1
  have hm12 : m = 1 ∨ m = 2 := by
    rcases m with _ | _ | _ | m
    · omega
    · left; rfl
    · right; rfl
    · exfalso
      rcases k with _ | k
      · omega
      · rw [Nat.add_mul, Nat.one_mul] at hkm
        omega
  rcases hm12 with h | h
  · rw [h, Nat.mul_one] at hm
    rw [hm]; exact hrn
  · exfalso
    rw [h] at hm
    have hrz : r = z := by omega
    apply hns
    have hv : y % 4 = 1 := by omega
    obtain ⟨f, hf⟩ := v2_ex hy.1
    have hf2 := (v2_mod4 hy.1 hf).2.1 hv
    refine special hy h41 hf hf2 fun b hb => ?_
    have hb2 := base_lt hb
    refine (gauss hy (by omega) (base_not (by omega) b hb) (by omega)).1 ?_
    rw [← hz, ← hrz]
    exact hk b hb

/-- Blocks of numbers y = a + 8 k. -/
noncomputable def all8 (K : Nat → Bool) (lo n : Nat) : Bool :=
  with8 n mkA fun r =>
    run8 1 lo n (fun a t => K (Nat.add 1 (Nat.add (Nat.mul 8 a) (Nat.mul 8 t)))) r && (run8 3 lo n (fun a t => K (Nat.add 3 (Nat.add (Nat.mul 8 a) (Nat.mul 8 t)))) r &&
    (run8 5 lo n (fun a t => K (Nat.add 5 (Nat.add (Nat.mul 8 a) (Nat.mul 8 t)))) r && run8 7 lo n (fun a t => K (Nat.add 7 (Nat.add (Nat.mul 8 a) (Nat.mul 8 t)))) r))

theorem all8_spec {K : Nat → Bool} {lo n y : Nat} (h : all8 K lo n = true) (ho : y % 2 = 1) (hl : ∀ l ∈ oddB, y % l ≠ 0) (h1 : lo ≤ y / 8) (h2 : y / 8 < lo + n) : K y = true := by
  unfold all8 at h
  obtain ⟨r, hf, h3⟩ := with8_spec h
  rw [Bool.and_eq_true, Bool.and_eq_true, Bool.and_eq_true] at h3
  obtain ⟨k1, k3, k5, k7⟩ := h3
  have key : ∀ a0, y % 8 = a0 → run8 a0 lo n (fun a t => K (Nat.add a0 (Nat.add (Nat.mul 8 a) (Nat.mul 8 t)))) r = true → K y = true := by
    intro a0 h8 hr
    have hu : a0 + 8 * (y / 8) = y := by omega
    obtain ⟨x, t, h6, h7⟩ := run8_spec (k := y / 8) hf (by omega) hr h1 h2 (lets_mkA fun l hl' => by rw [hu]; exact hl l hl')
    have e : Nat.add a0 (Nat.add (Nat.mul 8 x) (Nat.mul 8 t)) = y := by
      show a0 + (8 * x + 8 * t) = y
      omega
    rw [e] at h7
    exact h7
  have h8 : y % 8 = 1 ∨ y % 8 = 3 ∨ y % 8 = 5 ∨ y % 8 = 7 := by omega
  rcases h8 with h8 | h8 | h8 | h8
  · exact key 1 h8 k1
  · exact key 3 h8 k3
  · exact key 5 h8 k5
  · exact key 7 h8 k7
end Go.Proofs.YtpphfeinmmmckaaDoor
