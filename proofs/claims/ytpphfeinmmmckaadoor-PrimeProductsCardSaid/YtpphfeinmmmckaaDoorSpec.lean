/-
  Plain: two primes q < w of a number, one of which is at a greater level: all characters there are 1; the checks of all such, by a sieve.
-/
import Derived.Test.YtpphfeinmmmckaaDoorRank
import Derived.Test.YtpphfeinmmmckaaDoorOneT
namespace Go.Proofs.YtpphfeinmmmckaaDoor
open Nt

/-- All even indexes that q may have. -/
noncomputable def ranksE (q : Nat) (f : Nat → Bool) : Bool :=
  Nat.rec (motive := fun _ => Bool) true (fun i ih => Bool.rec (motive := fun _ => Bool) false ih (rk q f (Nat.mul 2 (Nat.succ i)))) (Nat.div (imax q) 2)

theorem rkE_all {q : Nat} {f : Nat → Bool} : ∀ {m : Nat}, Nat.rec (motive := fun _ => Bool) true (fun i ih => Bool.rec (motive := fun _ => Bool) false ih (rk q f (Nat.mul 2 (Nat.succ i)))) m = true → ∀ i, i < m → rk q f (2 * (i + 1)) = true
  | 0, _, i, hi => absurd hi (Nat.not_lt_zero _)
  | m + 1, h, i, hi => by
    have h' : Bool.rec (motive := fun _ => Bool) false (Nat.rec (motive := fun _ => Bool) true (fun i ih => Bool.rec (motive := fun _ => Bool) false ih (rk q f (Nat.mul 2 (Nat.succ i)))) m) (rk q f (Nat.mul 2 (Nat.succ m))) = true := h
    cases hb : rk q f (Nat.mul 2 (Nat.succ m)) with
    | false => rw [hb] at h'; cases h'
    | true =>
      rw [hb] at h'
      rcases Nat.lt_succ_iff_lt_or_eq.1 hi with h1 | rfl
      · exact rkE_all h' i h1
      · exact hb

theorem ranksE_spec {n s d q : Nat} {f : Nat → Bool} (h : ranksE q f = true) (H : Pass n s d) (hp : Prime q) (hp3 : 41 ≤ q) (hd : q ∣ n) (he : (q - 1) / Nat.gcd (q - 1) (n - 1) % 2 = 0) : f (Nat.gcd (q - 1) (n - 1)) = true := by
  obtain ⟨r, hr⟩ : ∃ r, r = Nat.gcd (q - 1) (n - 1) := ⟨_, rfl⟩
  have hk := kills_prime H hp (by omega) hd
  have hi := imax_le H hp hp3 hd
  have hr1 := (rank_even H hp (by omega)).2
  rw [← hr] at hk hi hr1 he ⊢
  obtain ⟨I, hI⟩ : r ∣ q - 1 := hr ▸ Nat.gcd_dvd_left _ _
  have hI1 : (q - 1) / r = I := by rw [hI]; exact Nat.mul_div_cancel_left _ hr1
  have hI0 : 1 ≤ I := by
    rcases I with _ | I
    · rw [Nat.mul_zero] at hI; omega
    · omega
  rw [hI1] at hi he
  have h1 := rkE_all h (I / 2 - 1) (by show I / 2 - 1 < imax q / 2; omega)
  rw [show 2 * (I / 2 - 1 + 1) = I by omega] at h1
  unfold rk at h1
  have e1 : Nat.sub q 1 = r * I := hI
  have e2 : Nat.mod (Nat.sub q 1) I = 0 := by rw [e1]; exact Nat.mul_mod_left _ _
  have e3 : Nat.div (Nat.sub q 1) I = r := by rw [e1]; exact Nat.mul_div_cancel _ hI0
  rw [e2, e3, tst3_false hk] at h1
  exact h1

/-- The odd primes below 401. -/
def oddP : List Nat := [3, 5, 7, 11, 13, 17, 19, 23, 29, 31, 37, 41, 43, 47, 53, 59, 61, 67, 71, 73, 79, 83, 89, 97, 101, 103, 107, 109, 113, 127, 131, 137, 139, 149, 151, 157, 163, 167, 173, 179, 181, 191, 193, 197, 199, 211, 223, 227, 229, 233, 239, 241, 251, 257, 263, 269, 271, 277, 281, 283, 293, 307, 311, 313, 317, 331, 337, 347, 349, 353, 359, 367, 373, 379, 383, 389, 397]
theorem oddP_all (l : Nat) (hl : Prime l) (h2 : l ≠ 2) (h : l < 401) : l ∈ oddP := by
  have key : ∀ s : Fin 401, 2 ≤ s.val → s.val ≠ 2 → (∀ d : Fin 21, 2 ≤ d.val → d.val * d.val ≤ s.val → s.val % d.val ≠ 0) → s.val ∈ oddP := by decide +kernel
  exact key ⟨l, h⟩ hl.1 h2 fun d h1 h2 => ((prime_iff l).1 hl).2 d.val h1 h2

/-- l does not divide the index of q. -/
noncomputable def noInd (q l : Nat) : Bool := Bool.rec (motive := fun _ => Bool) true (tst3 q (Nat.div (Nat.sub q 1) l)) (Nat.beq (Nat.mod (Nat.sub q 1) l) 0)

/-- The odd primes below 200, and from there to 401, by groups; each with its product. -/
def grpS : List (Nat × List Nat) := [(3, [3]), (5, [5]), (7, [7]), (143, [11, 13]), (7429, [17, 19, 23]), (58642669, [29, 31, 37, 41, 43]), (245945384599471, [47, 53, 59, 61, 67, 71, 73, 79]), (3112415252376078876482393, [83, 89, 97, 101, 103, 107, 109, 113, 127, 131, 137, 139]), (778851447666082307730996709, [149, 151, 157, 163, 167, 173, 179, 181, 191, 193, 197, 199])]
def grpB : List (Nat × List Nat) := [(262025664754470334382813071883984477441, [211, 223, 227, 229, 233, 239, 241, 251, 257, 263, 269, 271, 277, 281, 283, 293]), (49766523393936228750138598082752980119549, [307, 311, 313, 317, 331, 337, 347, 349, 353, 359, 367, 373, 379, 383, 389, 397])]
theorem grpS_ok : ∀ g ∈ grpS, ∀ l ∈ g.2, g.1 % l = 0 := by decide +kernel
theorem grpB_ok : ∀ g ∈ grpB, ∀ l ∈ g.2, g.1 % l = 0 := by decide +kernel
theorem grpS_all : ∀ l ∈ oddP, l < 200 → ∃ g ∈ grpS, l ∈ g.2 := by decide +kernel
theorem grpB_all : ∀ l ∈ oddP, 200 ≤ l → ∃ g ∈ grpB, l ∈ g.2 := by decide +kernel

/-- No prime of the list divides the index of q. -/
noncomputable def noIndL (q : Nat) (L : List Nat) : Bool := List.rec (motive := fun _ => Bool) true (fun l _ ih => Bool.rec (motive := fun _ => Bool) false ih (noInd q l)) L
/-- Nor any of the groups. -/
noncomputable def noIndG (q : Nat) (G : List (Nat × List Nat)) : Bool :=
  List.rec (motive := fun _ => Bool) true (fun g _ ih => Bool.rec (motive := fun _ => Bool) false ih (Bool.rec (motive := fun _ => Bool) (noIndL q g.2) true (Nat.beq (Nat.gcd (Nat.sub q 1) g.1) 1))) G

theorem noIndL_all {q : Nat} : ∀ {L : List Nat}, noIndL q L = true → ∀ l ∈ L, noInd q l = true
  | [], _, l, hl => by simp at hl
  | l :: L, h, m, hm => by
    have h' : Bool.rec (motive := fun _ => Bool) false (noIndL q L) (noInd q l) = true := h
    cases hb : noInd q l with
    | false => rw [hb] at h'; cases h'
    | true =>
      rw [hb] at h'
      rcases List.mem_cons.1 hm with rfl | hm
      · exact hb
      · exact noIndL_all (L := L) h' m hm

theorem noIndG_all {q : Nat} : ∀ {G : List (Nat × List Nat)}, noIndG q G = true → ∀ g ∈ G, Nat.gcd (q - 1) g.1 = 1 ∨ noIndL q g.2 = true
  | [], _, g, hg => by simp at hg
  | g :: G, h, m, hm => by
    have h' : Bool.rec (motive := fun _ => Bool) false (noIndG q G) (Bool.rec (motive := fun _ => Bool) (noIndL q g.2) true (Nat.beq (Nat.gcd (Nat.sub q 1) g.1) 1)) = true := h
    cases hb : Nat.beq (Nat.gcd (Nat.sub q 1) g.1) 1 with
    | true =>
      rw [hb] at h'
      rcases List.mem_cons.1 hm with rfl | hm
      · exact .inl (Nat.eq_of_beq_eq_true hb)
      · exact noIndG_all (G := G) h' m hm
    | false =>
      rw [hb] at h'
      cases hc : noIndL q g.2 with
      | false =>
        have h'' : Bool.rec (motive := fun _ => Bool) false (noIndG q G) (noIndL q g.2) = true := h'
        rw [hc] at h''; cases h''
      | true =>
        have h'' : Bool.rec (motive := fun _ => Bool) false (noIndG q G) (noIndL q g.2) = true := h'
        rw [hc] at h''
        rcases List.mem_cons.1 hm with rfl | hm
        · exact .inr hc
        · exact noIndG_all (G := G) h'' m hm

theorem noInd_not {q l r I : Nat} (h : noInd q l = true) (hk : Kills r q) (hI : q - 1 = r * I) (hl : l ∣ I) (hl0 : 0 < l) : False := by
  obtain ⟨x, hx⟩ := hl
  unfold noInd at h
  have e0 : q - 1 = l * (r * x) := by rw [hI, hx]; ac_rfl
  have e1 : Nat.mod (Nat.sub q 1) l = 0 := by
    have : Nat.sub q 1 = l * (r * x) := e0
    rw [this]; exact Nat.mul_mod_right _ _
  have e2 : Nat.div (Nat.sub q 1) l = r * x := by
    have : Nat.sub q 1 = l * (r * x) := e0
    rw [this]; exact Nat.mul_div_cancel_left _ hl0
  rw [e1, e2] at h
  have h' : tst3 q (r * x) = true := h
  refine tst3_not h' fun b hb => ?_
  have h1 := hk b hb
  rcases Nat.lt_or_ge q 2 with h3 | h3
  · exfalso
    rcases q with _ | _ | q
    · rw [Nat.mod_zero] at h1
      have h4 := (base_lt hb).2
      rcases r with _ | r
      · rw [Nat.zero_mul] at hI e0
        have h5 := hk 2 (by decide)
        have : tst3 0 (0 * x) = false := by rw [Nat.zero_mul]; decide +kernel
        rw [this] at h'
        cases h'
      · rw [Nat.pow_succ] at h1
        have : 1 * 2 ≤ b ^ r * b := Nat.mul_le_mul (Nat.pow_pos (by omega)) h4
        omega
    · rw [Nat.mod_one] at h1; omega
    · omega
  · have hone : 1 % q = 1 := Nat.mod_eq_of_lt (by omega)
    rw [pow_mul_one (by rw [h1, hone]), hone]

/-- A prime of a group does not divide the index. -/
theorem group_not {q l r I : Nat} {G : List (Nat × List Nat)} (hG : noIndG q G = true) (hok : ∀ g ∈ G, ∀ l ∈ g.2, g.1 % l = 0) (hin : ∃ g ∈ G, l ∈ g.2) (hk : Kills r q) (hI : q - 1 = r * I) (hl : l ∣ I) (hl1 : 1 < l) : False := by
  obtain ⟨g, hg, hlg⟩ := hin
  rcases noIndG_all hG g hg with h | h
  · have h1 : l ∣ Nat.gcd (q - 1) g.1 := Nat.dvd_gcd (by rw [hI]; exact Nat.dvd_trans hl (Nat.dvd_mul_left _ _)) (Nat.dvd_of_mod_eq_zero (hok g hg l hlg))
    rw [h] at h1
    have := Nat.le_of_dvd (by omega) h1
    omega
  · exact noInd_not (noIndL_all h l hlg) hk hI hl (by omega)

noncomputable def noInds (q : Nat) : Bool := Nat.ble (imax q) 800 && (noInd q 4 && (noIndG q grpS && noIndG q grpB))

/-- The even indexes, mostly 2 alone. -/
noncomputable def ranksF (q : Nat) (f : Nat → Bool) : Bool := Bool.rec (motive := fun _ => Bool) (ranksE q f) (f (Nat.div (Nat.sub q 1) 2)) (noInds q)

theorem ranksF_spec {n s d q : Nat} {f : Nat → Bool} (h : ranksF q f = true) (H : Pass n s d) (hp : Prime q) (hp3 : 41 ≤ q) (hd : q ∣ n) (he : (q - 1) / Nat.gcd (q - 1) (n - 1) % 2 = 0) : f (Nat.gcd (q - 1) (n - 1)) = true := by
  unfold ranksF at h
  cases hb : noInds q with
  | false =>
    rw [hb] at h
    exact ranksE_spec h H hp hp3 hd he
  | true =>
    rw [hb] at h
    have h0 : f (Nat.div (Nat.sub q 1) 2) = true := h
    unfold noInds at hb
    rw [Bool.and_eq_true, Bool.and_eq_true, Bool.and_eq_true] at hb
    obtain ⟨hz, hall4, hallS, hallB⟩ := hb
    have hmax : imax q ≤ 800 := Nat.le_of_ble_eq_true hz
    obtain ⟨r, hr⟩ : ∃ r, r = Nat.gcd (q - 1) (n - 1) := ⟨_, rfl⟩
    have hk := kills_prime H hp (by omega) hd
    have hi := imax_le H hp hp3 hd
    have hr1 := (rank_even H hp (by omega)).2
    rw [← hr] at hk hi hr1 he ⊢
    obtain ⟨I, hI⟩ : r ∣ q - 1 := hr ▸ Nat.gcd_dvd_left _ _
    have hI1 : (q - 1) / r = I := by rw [hI]; exact Nat.mul_div_cancel_left _ hr1
    have hI0 : 1 ≤ I := by
      rcases I with _ | I
      · rw [Nat.mul_zero] at hI; omega
      · omega
    rw [hI1] at hi he
    obtain ⟨J, rfl⟩ : ∃ J, I = 2 * J := ⟨I / 2, by omega⟩
    rcases Nat.lt_or_ge J 2 with h2 | h2
    · have hJ : J = 1 := by omega
      have : Nat.div (Nat.sub q 1) 2 = r := by
        have e : Nat.sub q 1 = r * 2 := by show q - 1 = r * 2; rw [hI, hJ]
        rw [e]; exact Nat.mul_div_cancel _ (by omega)
      rw [this] at h0
      exact h0
    · exfalso
      obtain ⟨l, hl, hlJ, _⟩ := least_factor J h2
      by_cases hl2 : l = 2
      · obtain ⟨x, hx⟩ := hlJ
        exact noInd_not hall4 hk hI ⟨x, by rw [hx, hl2]; omega⟩ (by omega)
      · have hle := Nat.le_of_dvd (by omega) hlJ
        have hmem := oddP_all l hl hl2 (by omega)
        rcases Nat.lt_or_ge l 200 with h3 | h3
        · exact group_not hallS grpS_ok (grpS_all l hmem h3) hk hI (Nat.dvd_trans hlJ ⟨2, Nat.mul_comm _ _⟩) hl.1
        · exact group_not hallB grpB_ok (grpB_all l hmem h3) hk hI (Nat.dvd_trans hlJ ⟨2, Nat.mul_comm _ _⟩) hl.1

/-- q = 1 + s r and w fail together. -/
noncomputable def twoF (w r s : Nat) : Bool := tst3 (Nat.succ (Nat.mul s r)) r || sfail (Nat.mul (Nat.succ (Nat.mul s r)) w)

/-- What is asked of a special w: no q below it. -/
noncomputable def kW (w : Nat) : Bool :=
  Bool.rec (motive := fun _ => Bool) true (ranksF w fun r => allFrom (twoF w r) 1 (Nat.sub (Nat.div (Nat.sub w 1) r) 1)) (Nat.beq (pow3 2 (Nat.sub w 1) w) 1)

/-- What is asked of a special q: no w above it, up to wm. -/
noncomputable def kQ (wm q : Nat) : Bool :=
  Bool.rec (motive := fun _ => Bool) true (ranksF q fun r => allFrom (twoF q r) (Nat.succ (Nat.div (Nat.sub q 1) r)) (Nat.sub (Nat.div wm r) (Nat.div (Nat.sub q 1) r))) (Nat.beq (pow3 2 (Nat.sub q 1) q) 1)

theorem pow3_fermat {p : Nat} (hp : Prime p) (hp3 : 38 ≤ p) : pow3 2 (Nat.sub p 1) p = 1 := by
  rw [pow3_eq]
  exact fermat hp (base_not hp3 2 (by decide))

/-- Two primes' common exponent. -/
theorem two_rank {q w : Nat} (hq : 2 ≤ q) (hw : 2 ≤ w) : Nat.gcd (w - 1) (q * w - 1) = Nat.gcd (w - 1) (q - 1) ∧ Nat.gcd (q - 1) (q * w - 1) = Nat.gcd (w - 1) (q - 1) := by
  obtain ⟨a, rfl⟩ : ∃ a, q = a + 1 := ⟨q - 1, by omega⟩
  obtain ⟨b, rfl⟩ : ∃ b, w = b + 1 := ⟨w - 1, by omega⟩
  simp only [Nat.add_sub_cancel]
  have e1 : (a + 1) * (b + 1) - 1 = a + b * (a + 1) := by
    rw [Nat.mul_add, Nat.mul_one, Nat.mul_comm (a + 1) b]; omega
  have e2 : (a + 1) * (b + 1) - 1 = b + a * (b + 1) := by
    rw [Nat.add_mul, Nat.one_mul]; omega
  refine ⟨?_, ?_⟩
  · rw [e1, Nat.gcd_add_mul_left_right]
  · rw [e2, Nat.gcd_add_mul_left_right, Nat.gcd_comm]

/-- A level that is greater shows in the index. -/
theorem index_even {x y r e f : Nat} (hx : ∃ m, x = 2 ^ e * (2 * m + 1)) (hy : ∃ m, y = 2 ^ f * (2 * m + 1)) (hef : e < f) (hrx : r ∣ x) (hry : r ∣ y) (hr : 1 ≤ r) : y / r % 2 = 0 := by
  obtain ⟨m, hm⟩ := hx
  obtain ⟨k, hk⟩ := hy
  obtain ⟨u, hu⟩ := hrx
  obtain ⟨v, hv⟩ := hry
  rw [hv, Nat.mul_div_cancel_left _ hr]
  rcases Nat.mod_two_eq_zero_or_one v with h | h
  · exact h
  · exfalso
    -- 2^f divides r, hence x
    have h1 : 2 ^ f ∣ r * v := by rw [← hv, hk]; exact Nat.dvd_mul_right _ _
    have hc : Nat.Coprime (2 ^ f) v := by
      refine Nat.Coprime.pow_left f ?_
      show Nat.gcd 2 v = 1
      rw [Nat.gcd_rec, h]; rfl
    have h2 : 2 ^ f ∣ r := hc.dvd_of_dvd_mul_right h1
    have h3 : 2 ^ f ∣ x := Nat.dvd_trans h2 ⟨u, hu⟩
    have h4 : 2 ^ (e + 1) ∣ x := Nat.dvd_trans (Nat.pow_dvd_pow 2 hef) h3
    rw [hm, Nat.pow_succ] at h4
    have h5 := Nat.dvd_of_mul_dvd_mul_left (Nat.two_pow_pos e) h4
    omega

/-- What a special prime is. -/
theorem special {w f : Nat} (hw : Prime w) (hw3 : 41 ≤ w) (hf : V2 w f) (hf2 : 2 ≤ f) (h : ∀ b ∈ baseL, gchi b w = true) : w % 8 = 1 ∧ ∀ l ∈ oddB, w % l ≠ 0 ∧ leg l (w % l) = true := by
  have h4 := (v2_mod4 (by omega) hf).1 hf2
  have h8 := gchi_two (show w % 2 = 1 by omega)
  rw [h 2 (by decide)] at h8
  refine ⟨?_, fun l hl => ?_⟩
  · have : w % 8 = 1 ∨ w % 8 = 5 := by omega
    rcases this with h5 | h5
    · exact h5
    · rw [h5] at h8; exact absurd h8 (by decide)
  · have hl2 := oddB_lt l hl
    have hne := prime_mod_ne hw hl2.1 (by omega)
    exact ⟨hne, leg_one hl h4 hne (h l (oddB_base l hl))⟩

/-- Blocks of the sieve of special numbers, B places each. -/
noncomputable def specB (K : Nat → Bool) (B a n : Nat) : Bool :=
  reps B (fun rs => allFrom (fun i => oneS rs (fun _ => true) 1 (Nat.mul i B) B (fun a t => K (Nat.add (Nat.succ (Nat.mul 8 a)) (Nat.mul 8 t)))) a n) ones []

theorem specB_spec {K : Nat → Bool} {B a n u : Nat} (h : specB K B a n = true) (hB : 0 < B) (h8 : u % 8 = 1) (h1 : a ≤ u / 8 / B) (h2 : u / 8 / B < a + n) (hl : ∀ l ∈ oddB, u % l ≠ 0 ∧ leg l (u % l) = true) : K u = true := by
  unfold specB at h
  obtain ⟨rs, h3, h4⟩ := reps_spec h
  have h5 := allFrom_spec h3 (u / 8 / B - a) (by omega)
  rw [show a + (u / 8 / B - a) = u / 8 / B by omega] at h5
  have hu : 1 + 8 * (u / 8) = u := by omega
  obtain ⟨k, hk⟩ : ∃ k, k = u / 8 := ⟨_, rfl⟩
  rw [← hk] at h5 hu
  have hkB := Nat.div_add_mod k B
  have hkm := Nat.mod_lt k hB
  obtain ⟨x, t, h6, h7⟩ := oneS_spec (W := B) (k := k) (lo := k / B * B) (n := B) (fun e he => by
    rcases h4 e he with h7 | h7
    · simp at h7
    · exact h7) (by omega) h5 (by rw [Nat.mul_comm]; omega) (by rw [Nat.mul_comm]; omega) (fun l hl' => by rw [hu]; exact hl l hl')
  have e : Nat.add (Nat.succ (Nat.mul 8 x)) (Nat.mul 8 t) = u := by
    show 8 * x + 1 + 8 * t = u
    omega
  rw [e] at h7
  exact h7

/-- A special w with a q below it: none. -/
theorem no_special_w {q w s d e f : Nat} (H : Pass (q * w) s d) (hq : Prime q) (hw : Prime w) (hq3 : 41 ≤ q) (hqw : q < w) (hvq : V2 q e) (hvw : V2 w f) (hef : e < f)
    (hK : w % 8 = 1 → (∀ l ∈ oddB, w % l ≠ 0 ∧ leg l (w % l) = true) → kW w = true) : False := by
  have hwn : w ∣ q * w := Nat.dvd_mul_left _ _
  have hqn : q ∣ q * w := Nat.dvd_mul_right _ _
  have he1 := v2_pos (prime_is_odd hq (by omega)) hvq
  have hchi := chi_one H hq hw (by omega) (by omega) hqn hwn hvq hvw hef
  obtain ⟨h8, hl⟩ := special hw (by omega) hvw (by omega) hchi
  have hk := hK h8 hl
  unfold kW at hk
  rw [pow3_fermat hw (by omega)] at hk
  have hk' : (ranksF w fun r => allFrom (twoF w r) 1 (Nat.sub (Nat.div (Nat.sub w 1) r) 1)) = true := hk
  obtain ⟨r1, r2⟩ := two_rank (show 2 ≤ q by omega) (show 2 ≤ w by omega)
  have hr1 := (rank_even H hw (by omega)).2
  have h5 := ranksF_spec hk' H hw (by omega) hwn ?_
  · obtain ⟨r, hr⟩ : ∃ r, r = Nat.gcd (w - 1) (q * w - 1) := ⟨_, rfl⟩
    rw [← hr] at h5 hr1
    have hrq : r ∣ q - 1 := by rw [hr, r1]; exact Nat.gcd_dvd_right _ _
    have hrw : r ∣ w - 1 := by rw [hr, r1]; exact Nat.gcd_dvd_left _ _
    obtain ⟨x, hx⟩ := hrq
    obtain ⟨y, hy⟩ := hrw
    have hxy : x < y := by
      have : r * x < r * y := by omega
      exact Nat.lt_of_mul_lt_mul_left this
    have hx0 : 1 ≤ x := by
      rcases x with _ | x
      · rw [Nat.mul_zero] at hx; omega
      · omega
    have hyd : Nat.div (Nat.sub w 1) r = y := by
      show (w - 1) / r = y
      rw [hy]; exact Nat.mul_div_cancel_left _ hr1
    have h5' : allFrom (twoF w r) 1 (Nat.sub (Nat.div (Nat.sub w 1) r) 1) = true := h5
    rw [hyd] at h5'
    have h6 := allFrom_spec h5' (x - 1) (by show x - 1 < y - 1; omega)
    rw [show 1 + (x - 1) = x by omega] at h6
    unfold twoF at h6
    have eq1 : Nat.succ (Nat.mul x r) = q := by
      show x * r + 1 = q
      rw [Nat.mul_comm, ← hx]; omega
    rw [eq1, Bool.or_eq_true] at h6
    rcases h6 with h6 | h6
    · refine tst3_not h6 ?_
      have := kills_prime H hq (by omega) hqn
      rwa [r2, ← r1, ← hr] at this
    · exact sfail_not h6 H
  · refine index_even hvq hvw hef ?_ (Nat.gcd_dvd_left _ _) hr1
    rw [r1]; exact Nat.gcd_dvd_right _ _

/-- A special q with a w above it: none. -/
theorem no_special_q {wm q w s d e f : Nat} (H : Pass (q * w) s d) (hq : Prime q) (hw : Prime w) (hq3 : 41 ≤ q) (hqw : q < w) (hwm : w ≤ wm) (hvq : V2 q f) (hvw : V2 w e) (hef : e < f)
    (hK : q % 8 = 1 → (∀ l ∈ oddB, q % l ≠ 0 ∧ leg l (q % l) = true) → kQ wm q = true) : False := by
  have hwn : w ∣ q * w := Nat.dvd_mul_left _ _
  have hqn : q ∣ q * w := Nat.dvd_mul_right _ _
  have he1 := v2_pos (prime_is_odd hw (by omega)) hvw
  have hchi := chi_one H hw hq (by omega) (by omega) hwn hqn hvw hvq hef
  obtain ⟨h8, hl⟩ := special hq (by omega) hvq (by omega) hchi
  have hk := hK h8 hl
  unfold kQ at hk
  rw [pow3_fermat hq (by omega)] at hk
  have hk' : (ranksF q fun r => allFrom (twoF q r) (Nat.succ (Nat.div (Nat.sub q 1) r)) (Nat.sub (Nat.div wm r) (Nat.div (Nat.sub q 1) r))) = true := hk
  obtain ⟨r1, r2⟩ := two_rank (show 2 ≤ q by omega) (show 2 ≤ w by omega)
  have hr1 := (rank_even H hq (by omega)).2
  have h5 := ranksF_spec hk' H hq (by omega) hqn ?_
  · obtain ⟨r, hr⟩ : ∃ r, r = Nat.gcd (q - 1) (q * w - 1) := ⟨_, rfl⟩
    rw [← hr] at h5 hr1
    have hrq : r ∣ q - 1 := by rw [hr]; exact Nat.gcd_dvd_left _ _
    have hrw : r ∣ w - 1 := by rw [hr, r2]; exact Nat.gcd_dvd_left _ _
    obtain ⟨x, hx⟩ := hrq
    obtain ⟨y, hy⟩ := hrw
    have hxy : x < y := by
      have : r * x < r * y := by omega
      exact Nat.lt_of_mul_lt_mul_left this
    have hxd : Nat.div (Nat.sub q 1) r = x := by
      show (q - 1) / r = x
      rw [hx]; exact Nat.mul_div_cancel_left _ hr1
    have h5' : allFrom (twoF q r) (Nat.succ (Nat.div (Nat.sub q 1) r)) (Nat.sub (Nat.div wm r) (Nat.div (Nat.sub q 1) r)) = true := h5
    rw [hxd] at h5'
    have hyw : y ≤ wm / r := by
      rw [Nat.le_div_iff_mul_le hr1, Nat.mul_comm, ← hy]; omega
    have h6 := allFrom_spec h5' (y - (x + 1)) (by show y - (x + 1) < wm / r - x; omega)
    have e2 : Nat.succ x + (y - (x + 1)) = y := by omega
    rw [e2] at h6
    unfold twoF at h6
    have eq1 : Nat.succ (Nat.mul y r) = w := by
      show y * r + 1 = w
      rw [Nat.mul_comm, ← hy]; omega
    have eq2 : Nat.mul w q = q * w := Nat.mul_comm _ _
    rw [eq1, eq2, Bool.or_eq_true] at h6
    rcases h6 with h6 | h6
    · refine tst3_not h6 ?_
      have := kills_prime H hw (by omega) hwn
      rwa [r1, ← r2, ← hr] at this
    · exact sfail_not h6 H
  · refine index_even hvw hvq hef ?_ (Nat.gcd_dvd_left _ _) hr1
    rw [r2]; exact Nat.gcd_dvd_left _ _
end Go.Proofs.YtpphfeinmmmckaaDoor
