/-
  Plain: three primes of a number, the two least of one level with the same characters, both from 65537 on: the check by buckets of characters.
-/
import Derived.Test.YtpphfeinmmmckaaDoorSa
namespace Go.Proofs.YtpphfeinmmmckaaDoor
open Nt

/-- The place of an odd base. -/
def idxB (l : Nat) : Nat := bif Nat.beq l 3 then 0 else bif Nat.beq l 5 then 1 else bif Nat.beq l 7 then 2 else bif Nat.beq l 11 then 3 else bif Nat.beq l 13 then 4 else bif Nat.beq l 17 then 5 else bif Nat.beq l 19 then 6 else bif Nat.beq l 23 then 7 else bif Nat.beq l 29 then 8 else bif Nat.beq l 31 then 9 else 10
/-- Characters as one number. -/
def sigB (m l : Nat) : Bool := Nat.beq (Nat.mod (Nat.shiftRight m (idxB l)) 2) 1
def bitN (b : Bool) (k : Nat) : Nat := bif b then k else 0
def numB (b0 b1 b2 b3 b4 b5 b6 b7 b8 b9 b10 : Bool) : Nat := bitN b0 1 + (bitN b1 2 + (bitN b2 4 + (bitN b3 8 + (bitN b4 16 + (bitN b5 32 + (bitN b6 64 + (bitN b7 128 + (bitN b8 256 + (bitN b9 512 + bitN b10 1024)))))))))
theorem numB_ok : ∀ b0 b1 b2 b3 b4 b5 b6 b7 b8 b9 b10 : Bool, numB b0 b1 b2 b3 b4 b5 b6 b7 b8 b9 b10 < 2048 ∧ sigB (numB b0 b1 b2 b3 b4 b5 b6 b7 b8 b9 b10) 3 = b0 ∧ sigB (numB b0 b1 b2 b3 b4 b5 b6 b7 b8 b9 b10) 5 = b1 ∧
    sigB (numB b0 b1 b2 b3 b4 b5 b6 b7 b8 b9 b10) 7 = b2 ∧ sigB (numB b0 b1 b2 b3 b4 b5 b6 b7 b8 b9 b10) 11 = b3 ∧ sigB (numB b0 b1 b2 b3 b4 b5 b6 b7 b8 b9 b10) 13 = b4 ∧ sigB (numB b0 b1 b2 b3 b4 b5 b6 b7 b8 b9 b10) 17 = b5 ∧
    sigB (numB b0 b1 b2 b3 b4 b5 b6 b7 b8 b9 b10) 19 = b6 ∧ sigB (numB b0 b1 b2 b3 b4 b5 b6 b7 b8 b9 b10) 23 = b7 ∧ sigB (numB b0 b1 b2 b3 b4 b5 b6 b7 b8 b9 b10) 29 = b8 ∧ sigB (numB b0 b1 b2 b3 b4 b5 b6 b7 b8 b9 b10) 31 = b9 ∧ sigB (numB b0 b1 b2 b3 b4 b5 b6 b7 b8 b9 b10) 37 = b10 := by decide +kernel

theorem sig_ex (f : Nat → Bool) : ∃ m, m < 2048 ∧ ∀ l ∈ oddB, sigB m l = f l := by
  obtain ⟨h, h3, h5, h7, h11, h13, h17, h19, h23, h29, h31, h37⟩ := numB_ok (f 3) (f 5) (f 7) (f 11) (f 13) (f 17) (f 19) (f 23) (f 29) (f 31) (f 37)
  refine ⟨_, h, fun l hl => ?_⟩
  simp only [oddB, List.mem_cons, List.not_mem_nil, or_false] at hl
  rcases hl with rfl | rfl | rfl | rfl | rfl | rfl | rfl | rfl | rfl | rfl | rfl <;> assumption

/-- What is asked of p and q of one bucket. -/
noncomputable def kSb (q q1 p : Nat) : Bool :=
  Bool.rec (motive := fun _ => Bool) true (force p fun p => Bool.rec (motive := fun _ => Bool) true (force (Nat.sub p 1) fun p1 => pairC p q p1 q1) (Nat.blt p q)) (Nat.beq (Nat.gcd prodQ p) 1)

/-- How far p goes for q, in places from 8192 on. -/
noncomputable def cutB (q : Nat) : Nat := Nat.succ (Nat.sub (bif Nat.blt q 2097152 then Nat.div q 8 else Nat.div (Nat.div 9223372036854775808 (Nat.mul q q)) 8) 8192)

/-- All p of the bucket for one q; Y: the bucket's bits, 64 places up. -/
noncomputable def inB (a0 Y q : Nat) : Bool :=
  Bool.rec (motive := fun _ => Bool) true (force q fun q => force (cutB q) fun n => force (Nat.sub q 1) fun q1 =>
    scan8 (fun a t => kSb q q1 (Nat.add a0 (Nat.add (Nat.mul 8 a) (Nat.mul 8 t)))) (Nat.succ (Nat.div n 131072)) (Nat.shiftRight (Nat.mod Y (Nat.pow 2 (Nat.add n 64))) 64) 8192) (Nat.beq (Nat.gcd prodQ q) 1)

/-- A bucket. -/
noncomputable def bucket (rs : List (Grp × Nat)) (N a0 m : Nat) : Bool :=
  build (mk1 (sigB m)) (fun r => force (Nat.add m (Nat.mul (Nat.pow 2 64) (inter 8192 a0 r (Nat.sub (Nat.pow 2 N) 1)))) fun Y =>
    scan8 (fun a t => inB a0 Y (Nat.add a0 (Nat.add (Nat.mul 8 a) (Nat.mul 8 t)))) 12 (Nat.shiftRight Y 64) 8192) rs []

theorem bucket_bits {rs : List (Grp × Nat)} {N a0 m : Nat} (hrs : ∀ e ∈ rs, e.1 ∈ ones ∧ e.2 = repD e.1.d (N / e.1.d + 2)) (h : bucket rs N a0 m = true) (hm : m < 2048) :
    ∃ X, X < 2 ^ N ∧ (scan8 (fun a t => inB a0 (m + 2 ^ 64 * X) (Nat.add a0 (Nat.add (Nat.mul 8 a) (Nat.mul 8 t)))) 12 X 8192 = true) ∧ ∀ k, 8192 ≤ k → k < 8192 + N → Lets (mk1 (sigB m)) a0 k → X.testBit (k - 8192) = true := by
  unfold bucket at h
  obtain ⟨rr, h1, h2⟩ := build_spec h
  have hfit := fit_of hrs h2
  rw [force_eq] at h1
  obtain ⟨X, hX⟩ : ∃ X, X = inter 8192 a0 rr (2 ^ N - 1) := ⟨_, rfl⟩
  have eX : inter 8192 a0 rr (Nat.sub (Nat.pow 2 N) 1) = X := hX.symm
  rw [eX] at h1
  have eY : Nat.add m (Nat.mul (Nat.pow 2 64) X) = m + 2 ^ 64 * X := rfl
  rw [eY] at h1
  have eS : Nat.shiftRight (m + 2 ^ 64 * X) 64 = X := by
    show (m + 2 ^ 64 * X) >>> 64 = X
    rw [Nat.shiftRight_eq_div_pow, Nat.add_mul_div_left _ _ (by decide), Nat.div_eq_of_lt (by omega), Nat.zero_add]
  rw [eS] at h1
  refine ⟨X, ?_, h1, fun k k1 k2 hk => ?_⟩
  · rw [hX]
    exact inter_lt (Nat.sub_lt (Nat.two_pow_pos _) (by omega))
  · rw [hX]
    refine inter_spec ?_ fun f hf => ?_
    · rw [Nat.testBit_two_pow_sub_one]; exact decide_eq_true (by omega)
    obtain ⟨g, hgm, h8⟩ := hfit f hf
    have G := ones_ok g hgm
    have hmm : grp (mk1 (sigB m)) g.l g.U < 2 ^ g.d := by
      refine grp_lt ?_
      rw [G.U]
      have := Nat.two_pow_pos g.d
      omega
    have hP : Pat (N + 1) g.d (grp (mk1 (sigB m)) g.l g.U) (grp (mk1 (sigB m)) g.l g.U * repD g.d (N / g.d + 2)) := by
      refine pat_rep G.d0 hmm (repD_eq G.d0) ?_
      have h9 := Nat.div_add_mod N g.d
      have h10 := Nat.mod_lt N G.d0
      rw [Nat.mul_add]
      omega
    rw [h8]
    refine turned_bit hP (by omega) ?_
    rw [show 8192 + (k - 8192) = k by omega]
    have hx : (k + a0 * g.inv) % g.d < g.d := Nat.mod_lt _ G.d0
    refine grp_spec ?_ fun f hf => ?_
    · rw [G.U, Nat.testBit_two_pow_sub_one]; exact decide_eq_true hx
    · have hok := List.all_eq_true.1 G.l f hf
      rw [Bool.and_eq_true, Bool.and_eq_true] at hok
      obtain ⟨⟨k1, k2⟩, k3⟩ := hok
      have hdv : g.d % f.1 = 0 := Nat.eq_of_beq_eq_true k3
      have h9 := hk g hgm f hf
      have hxe : (k + a0 * g.inv) % g.d % f.1 = (k + a0 * g.inv) % f.1 := Nat.mod_mod_of_dvd _ (Nat.dvd_of_mod_eq_zero hdv)
      refine ⟨h9.1, by rw [hxe]; exact h9.2, g.d / f.1, ?_, isRep_eq k2⟩
      have := Nat.div_add_mod g.d f.1
      omega

theorem scan8_upto {K : Nat → Nat → Bool} {n N X o : Nat} (hX : X < 2 ^ N) (hN : N ≤ n * 131072) (h : scan8 K n X o = true) : ∀ i, X.testBit i = true → ∃ a t, o + i = a + t ∧ K a t = true :=
  scan8_spec (Nat.lt_of_lt_of_le hX (Nat.pow_le_pow_right (by omega) hN)) h

/-- Two primes of one bucket. -/
theorem bucket_spec {rs : List (Grp × Nat)} {N a0 m p q w s d : Nat} (hrs : ∀ e ∈ rs, e.1 ∈ ones ∧ e.2 = repD e.1.d (N / e.1.d + 2)) (h : bucket rs N a0 m = true) (hm : m < 2048) (hN1 : 1474720 ≤ N) (hN2 : N ≤ 1572864) (H : Pass (p * q * w) s d) (hn63 : p * q * w < 9223372036854775808) (hp : Prime p) (hq : Prime q)
    (hp16 : 65537 ≤ p) (hpq : p < q) (hqw : q < w) (hqB : q < 11863283) (hp8 : p % 8 = a0) (hq8 : q % 8 = a0) (hpl : ∀ l ∈ oddB, p % l ≠ 0 ∧ leg l (p % l) = sigB m l) (hql : ∀ l ∈ oddB, q % l ≠ 0 ∧ leg l (q % l) = sigB m l)
    (hpd : (p - 1) ∣ p * q * w - 1) (hqd : (q - 1) ∣ p * q * w - 1) : False := by
  obtain ⟨X, hX, h1, h2⟩ := bucket_bits hrs h hm
  have hup : a0 + 8 * (p / 8) = p := by omega
  have huq : a0 + 8 * (q / 8) = q := by omega
  have bp := h2 (p / 8) (by omega) (by omega) (lets_mk1 fun l hl => by rw [hup]; exact hpl l hl)
  have bq := h2 (q / 8) (by omega) (by omega) (lets_mk1 fun l hl => by rw [huq]; exact hql l hl)
  obtain ⟨a, t, h3, h4⟩ := scan8_upto hX (by omega) h1 (q / 8 - 8192) bq
  have e : Nat.add a0 (Nat.add (Nat.mul 8 a) (Nat.mul 8 t)) = q := by
    show a0 + (8 * a + 8 * t) = q
    omega
  rw [e] at h4
  unfold inB at h4
  rw [gcdQ hq (by omega), force_eq, force_eq, force_eq] at h4
  obtain ⟨n, hn⟩ : ∃ n, n = cutB q := ⟨_, rfl⟩
  rw [← hn] at h4
  have hYm : Nat.shiftRight (Nat.mod (m + 2 ^ 64 * X) (Nat.pow 2 (Nat.add n 64))) 64 = X % 2 ^ n := by
    show ((m + 2 ^ 64 * X) % 2 ^ (n + 64)) >>> 64 = X % 2 ^ n
    rw [Nat.shiftRight_eq_div_pow, Nat.pow_add, Nat.mul_comm (2 ^ n) (2 ^ 64), Nat.mod_mul_right_div_self, Nat.add_mul_div_left _ _ (by decide), Nat.div_eq_of_lt (by omega), Nat.zero_add]
  rw [hYm] at h4
  have h5 : scan8 (fun a t => kSb q (q - 1) (Nat.add a0 (Nat.add (Nat.mul 8 a) (Nat.mul 8 t)))) (n / 131072 + 1) (X % 2 ^ n) 8192 = true := h4
  have hcut : p / 8 - 8192 < n := by
    rw [hn]
    unfold cutB
    have hpp : p * (q * q) < 9223372036854775808 := by
      have h6 : p * (q * q) ≤ p * (q * w) := Nat.mul_le_mul_left _ (Nat.mul_le_mul_left _ (by omega))
      rw [← Nat.mul_assoc p q w] at h6
      omega
    cases hb : Nat.blt q 2097152 with
    | true =>
      rw [cond_true]
      show p / 8 - 8192 < q / 8 - 8192 + 1
      have : p / 8 ≤ q / 8 := Nat.div_le_div_right (by omega)
      omega
    | false =>
      rw [cond_false]
      show p / 8 - 8192 < 9223372036854775808 / (q * q) / 8 - 8192 + 1
      have h7 : p ≤ 9223372036854775808 / (q * q) := by
        rw [Nat.le_div_iff_mul_le (Nat.mul_pos (by omega) (by omega))]; omega
      have : p / 8 ≤ 9223372036854775808 / (q * q) / 8 := Nat.div_le_div_right h7
      omega
  have bp2 : (X % 2 ^ n).testBit (p / 8 - 8192) = true := by
    rw [Nat.testBit_mod_two_pow, bp, decide_eq_true hcut]; rfl
  have hX2 : X % 2 ^ n < 2 ^ ((n / 131072 + 1) * 131072) := Nat.lt_of_lt_of_le (Nat.mod_lt _ (Nat.two_pow_pos n)) (Nat.pow_le_pow_right (by omega) (by omega))
  obtain ⟨a', t', h6, h7⟩ := scan8_spec hX2 h5 (p / 8 - 8192) bp2
  have e2 : Nat.add a0 (Nat.add (Nat.mul 8 a') (Nat.mul 8 t')) = p := by
    show a0 + (8 * a' + 8 * t') = p
    omega
  rw [e2] at h7
  unfold kSb at h7
  rw [gcdQ hp (by omega), force_eq, force_eq] at h7
  have hb : Nat.blt p q = true := Nat.ble_eq_true_of_le hpq
  rw [hb] at h7
  have h8 : pairC p q (p - 1) (q - 1) = true := h7
  exact pairC_spec h8 (by omega) hpq hqw (by omega) (by omega) (Nat.dvd_refl _) (Nat.dvd_refl _) hn63 hpd hqd H

/-- Buckets m0, m0 + 1, .. : n of them. -/
noncomputable def bucks (N a0 m0 n : Nat) : Bool := reps N (fun rs => allFrom (fun i => force (Nat.add m0 i) (bucket rs N a0)) 0 n) ones []
theorem bucks_spec {N a0 m0 n m : Nat} (h : bucks N a0 m0 n = true) (h1 : m0 ≤ m) (h2 : m < m0 + n) : ∃ rs, (∀ e ∈ rs, e.1 ∈ ones ∧ e.2 = repD e.1.d (N / e.1.d + 2)) ∧ bucket rs N a0 m = true := by
  unfold bucks at h
  obtain ⟨rs, h4, h5⟩ := reps_spec h
  refine ⟨rs, fun e he => ?_, ?_⟩
  · rcases h5 e he with h6 | h6
    · simp at h6
    · exact h6
  · have h6 := allFrom_spec h4 (m - m0) (by omega)
    rw [Nat.zero_add, force_eq] at h6
    have e : Nat.add m0 (m - m0) = m := by
      show m0 + (m - m0) = m
      omega
    rwa [e] at h6
end Go.Proofs.YtpphfeinmmmckaaDoor
