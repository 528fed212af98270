/-
  Plain: rows of the sieve for two primes.
-/
import Derived.Test.YtpphfeinmmmckaaDoorTwoT
import Derived.Test.YtpphfeinmmmckaaDoorMNum
/- Two: Plain: two primes 1 + s r and 1 + I r, s and I odd, whose characters are the same and whose bases r kills: a check for one s and I, by a sieve over r. -/
namespace Go.Proofs.YtpphfeinmmmckaaDoor
open Nt

def mkB (s i : Nat) (e : Nat × Nat × Nat × Nat) : Nat := mask e.1 e.2.1 e.2.2.1 s i

/-- The patterns of the groups, reckoned, handed to k. -/
noncomputable def build (mk : Nat × Nat × Nat × Nat → Nat) (k : List (Nat → Nat → Nat) → Bool) (l : List (Grp × Nat)) : List (Nat → Nat → Nat) → Bool :=
  List.rec (motive := fun _ => List (Nat → Nat → Nat) → Bool) k (fun g _ ih acc => force (Nat.mul (grp mk g.1.l g.1.U) g.2) fun E => ih (turned E g.1.d g.1.inv :: acc)) l

theorem build_spec {mk : Nat × Nat × Nat × Nat → Nat} {k : List (Nat → Nat → Nat) → Bool} : ∀ {l : List (Grp × Nat)} {acc : List (Nat → Nat → Nat)}, build mk k l acc = true →
    ∃ r, k r = true ∧ ∀ e ∈ r, e ∈ acc ∨ ∃ g ∈ l, e = turned (grp mk g.1.l g.1.U * g.2) g.1.d g.1.inv
  | [], acc, h => ⟨acc, h, fun _ he => .inl he⟩
  | g :: l, acc, h => by
    have h' : (force (Nat.mul (grp mk g.1.l g.1.U) g.2) fun E => build mk k l (turned E g.1.d g.1.inv :: acc)) = true := h
    rw [force_eq] at h'
    obtain ⟨r, h1, h2⟩ := build_spec h'
    refine ⟨r, h1, fun e he => ?_⟩
    rcases h2 e he with h3 | ⟨g', hg', h3⟩
    · rcases List.mem_cons.1 h3 with h4 | h4
      · exact .inr ⟨g, by simp, h4⟩
      · exact .inl h4
    · exact .inr ⟨g', by simp [hg'], h3⟩

/-- The groups with what repeats their masks over W places. -/
noncomputable def reps (W : Nat) (k : List (Grp × Nat) → Bool) (l : List Grp) : List (Grp × Nat) → Bool :=
  List.rec (motive := fun _ => List (Grp × Nat) → Bool) k (fun g _ ih acc => force (repD g.d (Nat.add (Nat.div W g.d) 2)) fun R => ih ((g, R) :: acc)) l

theorem reps_spec {W : Nat} {k : List (Grp × Nat) → Bool} : ∀ {l : List Grp} {acc : List (Grp × Nat)}, reps W k l acc = true →
    ∃ r, k r = true ∧ ∀ e ∈ r, e ∈ acc ∨ (e.1 ∈ l ∧ e.2 = repD e.1.d (W / e.1.d + 2))
  | [], acc, h => ⟨acc, h, fun _ he => .inl he⟩
  | g :: l, acc, h => by
    have h' : (force (repD g.d (Nat.add (Nat.div W g.d) 2)) fun R => reps W k l ((g, R) :: acc)) = true := h
    rw [force_eq] at h'
    obtain ⟨r, h1, h2⟩ := reps_spec h'
    refine ⟨r, h1, fun e he => ?_⟩
    rcases h2 e he with h3 | ⟨h3, h5⟩
    · rcases List.mem_cons.1 h3 with h4 | h4
      · rw [h4]; exact .inr ⟨by simp, rfl⟩
      · exact .inl h4
    · exact .inr ⟨List.mem_cons_of_mem _ h3, h5⟩

/-- What is asked of r = D j, j = c + 105 (o + t). -/
noncomputable def ck (sD iD s' i' D c o t : Nat) : Bool :=
  Bool.rec (motive := fun _ => Bool) true
    (Bool.rec (motive := fun _ => Bool) true
      (tst3 (Nat.add (Nat.succ (Nat.mul iD (Nat.add c (Nat.mul 105 o)))) (Nat.mul i' t)) (Nat.mul D (Nat.add c (Nat.mul 105 (Nat.add o t)))) ||
        tst3 (Nat.add (Nat.succ (Nat.mul sD (Nat.add c (Nat.mul 105 o)))) (Nat.mul s' t)) (Nat.mul D (Nat.add c (Nat.mul 105 (Nat.add o t)))))
      (Nat.beq (pow3 2 (Nat.mul D (Nat.add c (Nat.mul 105 (Nat.add o t)))) (Nat.add (Nat.succ (Nat.mul iD (Nat.add c (Nat.mul 105 o)))) (Nat.mul i' t))) 1))
    (Nat.beq (Nat.gcd prodP (Nat.mul (Nat.add (Nat.succ (Nat.mul iD (Nat.add c (Nat.mul 105 o)))) (Nat.mul i' t)) (Nat.add (Nat.succ (Nat.mul sD (Nat.add c (Nat.mul 105 o)))) (Nat.mul s' t)))) 1)

theorem prodP_not {p : Nat} (hp : Prime p) (h : 15000 ≤ p) : ¬ p ∣ prodP := by
  rw [prodP_eq]
  refine prod_coprime hp _ fun x hx hd => ?_
  have h1 := smallP_lt x hx
  have := Nat.le_of_dvd h1.1 hd
  omega

theorem ck_spec {sD iD D c o t j : Nat} (h : ck sD iD (105 * sD) (105 * iD) D c o t = true) (hj : j = c + 105 * (o + t)) (hw : Prime (iD * j + 1)) (hq : Prime (sD * j + 1)) (hw2 : 15000 ≤ iD * j + 1) (hq2 : 15000 ≤ sD * j + 1)
    (hkw : Kills (D * j) (iD * j + 1)) (hkq : Kills (D * j) (sD * j + 1)) : False := by
  unfold ck at h
  have key : ∀ x, Nat.add (Nat.succ (Nat.mul x (Nat.add c (Nat.mul 105 o)))) (Nat.mul (105 * x) t) = x * j + 1 := by
    intro x
    show x * (c + 105 * o) + 1 + 105 * x * t = x * j + 1
    rw [hj, Nat.mul_add 105, ← Nat.add_assoc, Nat.mul_add x (c + 105 * o)]
    have : 105 * x * t = x * (105 * t) := by ac_rfl
    omega
  have ej : Nat.add c (Nat.mul 105 (Nat.add o t)) = j := hj.symm
  rw [key, key, ej] at h
  have hg : Nat.gcd prodP (Nat.mul (iD * j + 1) (sD * j + 1)) = 1 := by
    have h1 : Nat.Coprime prodP (iD * j + 1) := by
      rw [Nat.coprime_comm]; exact prime_coprime hw (prodP_not hw hw2)
    have h2 : Nat.Coprime prodP (sD * j + 1) := by
      rw [Nat.coprime_comm]; exact prime_coprime hq (prodP_not hq hq2)
    exact h1.mul_right h2
  rw [hg] at h
  have hp : pow3 2 (Nat.mul D j) (iD * j + 1) = 1 := by rw [pow3_eq]; exact hkw 2 (by decide)
  rw [hp] at h
  have h' : (tst3 (iD * j + 1) (D * j) || tst3 (sD * j + 1) (D * j)) = true := h
  rw [Bool.or_eq_true] at h'
  rcases h' with h1 | h1
  · exact tst3_not h1 hkw
  · exact tst3_not h1 hkq

def dOf (s I : Nat) : Nat := bif Nat.beq (Nat.mod s 4) (Nat.mod I 4) then 2 else 4

/-- No two such primes with r from lo to hi. rs: the groups with what repeats their masks. -/
noncomputable def unit (rs : List (Grp × Nat)) (s I lo hi : Nat) : Bool :=
  force (dOf s I) fun D => force (Nat.mul s D) fun sD => force (Nat.mul I D) fun iD => force (Nat.mul 105 sD) fun s' => force (Nat.mul 105 iD) fun i' =>
  force (Nat.div lo (Nat.mul 105 D)) fun a => force (Nat.succ (Nat.sub (Nat.div hi (Nat.mul 105 D)) a)) fun n =>
   build (mkB s' i') (fun l => peel pos (fun c => force c fun c => scan pos (ck sD iD s' i' D c) (Nat.succ (Nat.div n 131072)) (inter a c l (Nat.sub (Nat.pow 2 n) 1)) a) 106 (grp (mkB sD iD) grpL0 grpU0)) rs []

/-- What is said of two such primes. -/
structure Twin (s I r : Nat) : Prop where
  q : Prime (1 + s * r)
  w : Prime (1 + I * r)
  q2 : 15000 ≤ 1 + s * r
  w2 : 15000 ≤ 1 + I * r
  even : r % 2 = 0
  kq : Kills r (1 + s * r)
  kw : Kills r (1 + I * r)
  chi : ∀ b ∈ baseL, gchi b (1 + s * r) = gchi b (1 + I * r)

theorem twin_mod4 {s I r : Nat} (hs : s % 2 = 1) (hI : I % 2 = 1) (hr : r % 2 = 0) : (1 + s * r) % 2 = 1 ∧ (1 + s * r) % 4 = (1 + I * r) % 4 := by
  obtain ⟨a, rfl⟩ : ∃ a, s = 2 * a + 1 := ⟨s / 2, by omega⟩
  obtain ⟨b, rfl⟩ : ∃ b, I = 2 * b + 1 := ⟨I / 2, by omega⟩
  obtain ⟨t, rfl⟩ : ∃ t, r = 2 * t := ⟨r / 2, by omega⟩
  have e1 : (2 * a + 1) * (2 * t) = 4 * (a * t) + 2 * t := by rw [Nat.add_mul, Nat.mul_mul_mul_comm]; omega
  have e2 : (2 * b + 1) * (2 * t) = 4 * (b * t) + 2 * t := by rw [Nat.add_mul, Nat.mul_mul_mul_comm]; omega
  rw [e1, e2]
  omega

theorem twin_D {s I r : Nat} (T : Twin s I r) (hs : s % 2 = 1) (hI : I % 2 = 1) : r = dOf s I * (r / dOf s I) ∧ 0 < dOf s I := by
  have hr := T.even
  obtain ⟨h1, h2⟩ := twin_mod4 hs hI hr
  have h3 := two_same h1 h2 (T.chi 2 (by decide))
  unfold dOf
  cases hb : Nat.beq (Nat.mod s 4) (Nat.mod I 4) with
  | true => rw [cond_true]; omega
  | false =>
    rw [cond_false]
    have hne : s % 4 ≠ I % 4 := fun h => by
      have : Nat.beq (s % 4) (I % 4) = true := by rw [h]; exact Nat.beq_refl _
      have hb' : Nat.beq (s % 4) (I % 4) = false := hb
      rw [this] at hb'; cases hb'
    suffices r % 4 = 0 by omega
    clear hb h2
    obtain ⟨a, rfl⟩ : ∃ a, s = 2 * a + 1 := ⟨s / 2, by omega⟩
    obtain ⟨b, rfl⟩ : ∃ b, I = 2 * b + 1 := ⟨I / 2, by omega⟩
    obtain ⟨t, rfl⟩ : ∃ t, r = 2 * t := ⟨r / 2, by omega⟩
    have e1 : (2 * a + 1) * (2 * t) = 4 * (a * t) + 2 * t := by rw [Nat.add_mul, Nat.mul_mul_mul_comm]; omega
    have e2 : (2 * b + 1) * (2 * t) = 4 * (b * t) + 2 * t := by rw [Nat.add_mul, Nat.mul_mul_mul_comm]; omega
    rw [e1, e2] at h3
    rcases Nat.mod_two_eq_zero_or_one t with h4 | h4
    · omega
    · exfalso
      obtain ⟨u, rfl⟩ : ∃ u, t = 2 * u + 1 := ⟨t / 2, by omega⟩
      have e3 : a * (2 * u + 1) = 2 * (a * u) + a := by rw [Nat.mul_add, Nat.mul_left_comm]; omega
      have e4 : b * (2 * u + 1) = 2 * (b * u) + b := by rw [Nat.mul_add, Nat.mul_left_comm]; omega
      rw [e3, e4] at h3
      omega

theorem prime_mod_ne {p l : Nat} (hp : Prime p) (h1 : 1 < l) (h2 : l < p) : p % l ≠ 0 := fun h => by
  rcases hp.2 l (Nat.dvd_of_mod_eq_zero h) with h3 | h3 <;> omega

theorem oddB_base : ∀ l ∈ oddB, l ∈ baseL := by decide
theorem oddB_lt : ∀ l ∈ oddB, 1 < l ∧ l ≤ 37 := by decide

/-- The colours of two such primes are the same. -/
theorem twin_col {s I r l : Nat} (T : Twin s I r) (hs : s % 2 = 1) (hI : I % 2 = 1) (hl : l ∈ oddB ∨ (37 < l ∧ l < 15000)) :
    (1 + s * r) % l ≠ 0 ∧ (1 + I * r) % l ≠ 0 ∧ col l ((1 + s * r) % l) = col l ((1 + I * r) % l) := by
  have hq2 := T.q2
  have hw2 := T.w2
  have hb : 1 < l ∧ l < 15000 := by
    rcases hl with h | h
    · have := oddB_lt l h; omega
    · omega
  have n1 := prime_mod_ne T.q hb.1 (by omega)
  have n2 := prime_mod_ne T.w hb.1 (by omega)
  refine ⟨n1, n2, ?_⟩
  unfold col
  rcases hl with h | h
  · have h37 := (oddB_lt l h).2
    have : Nat.ble l 37 = true := Nat.ble_eq_true_of_le h37
    rw [this, cond_true, cond_true]
    obtain ⟨h1, h2⟩ := twin_mod4 hs hI T.even
    exact leg_same h h1 h2 n1 n2 (T.chi l (oddB_base l h))
  · have : Nat.ble l 37 = false := by
      rcases hb : Nat.ble l 37 with _ | _
      · rfl
      · have := Nat.le_of_ble_eq_true hb; omega
    rw [this]; rfl

/-- The bits of a class and of its place. -/
theorem turn_mod {sD i c inv d l : Nat} (hinv : 105 * inv % d = 1) (hl : d % l = 0) : (1 + 105 * sD * (i + c * inv)) % l = (1 + sD * (c + 105 * i)) % l := by
  have h1 : 105 * inv % l = 1 % l := by
    have hd : l ∣ d := Nat.dvd_of_mod_eq_zero hl
    rw [← Nat.mod_mod_of_dvd _ hd, hinv]
  have e1 : 105 * sD * (i + c * inv) = sD * (105 * i) + sD * c * (105 * inv) := by
    rw [Nat.mul_add]
    congr 1 <;> ac_rfl
  have e2 : sD * (c + 105 * i) = sD * (105 * i) + sD * c * 1 := by rw [Nat.mul_add, Nat.mul_one, Nat.add_comm]
  have h3 : sD * c * (105 * inv) % l = sD * c * 1 % l := by rw [Nat.mul_mod, h1, ← Nat.mul_mod]
  rw [e1, e2, ← Nat.add_assoc, ← Nat.add_assoc, Nat.add_mod, h3, ← Nat.add_mod]

theorem unit_spec {rs : List (Grp × Nat)} {W s I lo hi r : Nat} (hrs : ∀ e ∈ rs, e.1 ∈ grps ∧ e.2 = repD e.1.d (W / e.1.d + 2)) (hW : hi / 210 ≤ lo / 210 + W) (h : unit rs s I lo hi = true)
    (hs : s % 2 = 1) (hI : I % 2 = 1) (T : Twin s I r) (h1 : lo ≤ r) (h2 : r ≤ hi) : False := by
  unfold unit at h
  simp only [force_eq] at h
  obtain ⟨D, hD⟩ : ∃ D, D = dOf s I := ⟨_, rfl⟩
  have hD24 : D = 2 ∨ D = 4 := by
    rw [hD]; unfold dOf
    cases Nat.beq (Nat.mod s 4) (Nat.mod I 4) with
    | true => exact .inl rfl
    | false => exact .inr rfl
  obtain ⟨hrD, hD0⟩ := twin_D T hs hI
  rw [← hD] at h hrD hD0
  obtain ⟨j, hj⟩ : ∃ j, j = r / D := ⟨_, rfl⟩
  rw [← hj] at hrD
  obtain ⟨c, hc⟩ : ∃ c, c = j % 105 := ⟨_, rfl⟩
  obtain ⟨i, hi'⟩ : ∃ i, i = j / 105 := ⟨_, rfl⟩
  have hji : j = c + 105 * i := by omega
  have eq1 : s * r = s * D * j := by rw [Nat.mul_assoc, ← hrD]
  have ew1 : I * r = I * D * j := by rw [Nat.mul_assoc, ← hrD]
  obtain ⟨rr, h3, h4⟩ := build_spec h
  have hcb : (grp (mkB (Nat.mul s D) (Nat.mul I D)) grpL0 grpU0).testBit c = true := by
    refine grp_spec ?_ fun e he => ?_
    · rw [grpU0_eq, Nat.testBit_two_pow_sub_one]; exact decide_eq_true (by omega)
    · have hok := List.all_eq_true.1 grpL0_ok e he
      rw [Bool.and_eq_true, Bool.and_eq_true] at hok
      obtain ⟨⟨k1, k2⟩, k3⟩ := hok
      have hdv : 105 % e.1 = 0 := Nat.eq_of_beq_eq_true k3
      obtain ⟨n1, n2, n3⟩ := twin_col T hs hI (.inl (grp0_mem e he))
      rw [eq1] at n1 n3
      rw [ew1] at n2 n3
      have h5 := mask_bit k1 n1 n2 n3
      have hce : c % e.1 = j % e.1 := by rw [hc]; exact Nat.mod_mod_of_dvd j (Nat.dvd_of_mod_eq_zero hdv)
      refine ⟨h5.1, by rw [hce]; exact h5.2, 105 / e.1, ?_, isRep_eq k2⟩
      have := Nat.div_add_mod 105 e.1
      omega
  have h5 := peel_spec h3 c hcb
  obtain ⟨a, ha⟩ : ∃ a, a = lo / (105 * D) := ⟨_, rfl⟩
  obtain ⟨n, hn⟩ : ∃ n, n = hi / (105 * D) - a + 1 := ⟨_, rfl⟩
  have en : Nat.succ (Nat.sub (Nat.div hi (Nat.mul 105 D)) (Nat.div lo (Nat.mul 105 D))) = n := by rw [hn, ha]; rfl
  have ea : Nat.div lo (Nat.mul 105 D) = a := ha.symm
  rw [en, ea] at h5
  have h6 : scan pos (ck (s * D) (I * D) (105 * (s * D)) (105 * (I * D)) D c) (n / 131072 + 1) (inter a c rr (2 ^ n - 1)) a = true := h5
  have hdiv : i = r / (105 * D) := by rw [hi', hj, Nat.div_div_eq_div_mul, Nat.mul_comm D]
  have hlo : a ≤ i := by rw [ha, hdiv]; exact Nat.div_le_div_right h1
  have hhi : i ≤ hi / (105 * D) := by rw [hdiv]; exact Nat.div_le_div_right h2
  have hnW : n ≤ W + 1 := by
    rw [hn, ha]
    rcases hD24 with e | e
    · rw [e]; omega
    · rw [e]; omega
  have hX : inter a c rr (2 ^ n - 1) < 2 ^ ((n / 131072 + 1) * 131072) := by
    have h7 : inter a c rr (2 ^ n - 1) < 2 ^ n := inter_lt (by have := Nat.two_pow_pos n; omega)
    have h8 : 2 ^ n ≤ 2 ^ ((n / 131072 + 1) * 131072) := Nat.pow_le_pow_right (by omega) (by omega)
    omega
  have hbit : (inter a c rr (2 ^ n - 1)).testBit (i - a) = true := by
    refine inter_spec ?_ fun f hf => ?_
    · rw [Nat.testBit_two_pow_sub_one]; exact decide_eq_true (by omega)
    rcases h4 f hf with h8 | ⟨g, hg, h8⟩
    · simp at h8
    · obtain ⟨hgm, hgR⟩ := hrs g hg
      have G := grps_ok g.1 hgm
      have hm : grp (mkB (Nat.mul 105 (Nat.mul s D)) (Nat.mul 105 (Nat.mul I D))) g.1.l g.1.U < 2 ^ g.1.d := by
        refine grp_lt ?_
        rw [G.U]
        have := Nat.two_pow_pos g.1.d
        omega
      have hP : Pat (W + 1) g.1.d (grp (mkB (Nat.mul 105 (Nat.mul s D)) (Nat.mul 105 (Nat.mul I D))) g.1.l g.1.U) (grp (mkB (Nat.mul 105 (Nat.mul s D)) (Nat.mul 105 (Nat.mul I D))) g.1.l g.1.U * g.2) := by
        refine pat_rep G.d0 hm (by rw [hgR]; exact repD_eq G.d0) ?_
        have h9 := Nat.div_add_mod W g.1.d
        have h10 := Nat.mod_lt W G.d0
        rw [Nat.mul_add]
        omega
      rw [h8]
      refine turned_bit hP (by omega) ?_
      rw [show a + (i - a) = i by omega]
      show (grp (mkB (105 * (s * D)) (105 * (I * D))) g.1.l g.1.U).testBit ((i + c * g.1.inv) % g.1.d) = true
      have hx : (i + c * g.1.inv) % g.1.d < g.1.d := Nat.mod_lt _ G.d0
      refine grp_spec ?_ fun f hf => ?_
      · rw [G.U, Nat.testBit_two_pow_sub_one]; exact decide_eq_true hx
      · have hok := List.all_eq_true.1 G.l f hf
        rw [Bool.and_eq_true, Bool.and_eq_true] at hok
        obtain ⟨⟨k1, k2⟩, k3⟩ := hok
        have hdv : g.1.d % f.1 = 0 := Nat.eq_of_beq_eq_true k3
        obtain ⟨n1, n2, n3⟩ := twin_col T hs hI (grps_mem g.1 hgm f hf)
        have t1 := turn_mod (sD := s * D) (i := i) (c := c) G.inv hdv
        have t2 := turn_mod (sD := I * D) (i := i) (c := c) G.inv hdv
        rw [← hji, ← eq1] at t1
        rw [← hji, ← ew1] at t2
        rw [← t1] at n1
        rw [← t2] at n2
        rw [← t1, ← t2] at n3
        have h9 := mask_bit k1 n1 n2 n3
        have hxe : (i + c * g.1.inv) % g.1.d % f.1 = (i + c * g.1.inv) % f.1 := Nat.mod_mod_of_dvd _ (Nat.dvd_of_mod_eq_zero hdv)
        refine ⟨h9.1, by rw [hxe]; exact h9.2, g.1.d / f.1, ?_, isRep_eq k2⟩
        have := Nat.div_add_mod g.1.d f.1
        omega
  obtain ⟨o, t, hot, h8⟩ := scan_spec hX h6 (i - a) hbit
  have hjo : j = c + 105 * (o + t) := by rw [← hot]; omega
  have hq := T.q
  have hw := T.w
  have hq2 := T.q2
  have hw2 := T.w2
  have hkq := T.kq
  have hkw := T.kw
  rw [eq1, Nat.add_comm] at hq hq2 hkq
  rw [ew1, Nat.add_comm] at hw hw2 hkw
  rw [hrD] at hkq hkw
  exact ck_spec h8 hjo hw hq hw2 hq2 hkw hkq
end Go.Proofs.YtpphfeinmmmckaaDoor

/- ThrT: Plain: the table of least exponents, by program (thrgen.py); each row counted by the kernel. -/
namespace Go.Proofs.YtpphfeinmmmckaaDoor
set_option maxRecDepth 100000
theorem thr0 : thrOk 65536 181 15526 = true := by decide +kernel
theorem thr1 : thrOk 77935 197 17722 = true := by decide +kernel
theorem thr2 : thrOk 92681 215 19618 = true := by decide +kernel
theorem thr3 : thrOk 110217 234 22354 = true := by decide +kernel
theorem thr4 : thrOk 131072 256 25802 = true := by decide +kernel
theorem thr5 : thrOk 155871 279 28854 = true := by decide +kernel
theorem thr6 : thrOk 185363 304 32382 = true := by decide +kernel
theorem thr7 : thrOk 220435 331 35894 = true := by decide +kernel
theorem thr8 : thrOk 262144 362 41194 = true := by decide +kernel
theorem thr9 : thrOk 311743 394 46198 = true := by decide +kernel
theorem thr10 : thrOk 370727 430 51386 = true := by decide +kernel
theorem thr11 : thrOk 440871 469 57330 = true := by decide +kernel
theorem thr12 : thrOk 524288 512 64590 = true := by decide +kernel
theorem thr13 : thrOk 623487 558 72582 = true := by decide +kernel
theorem thr14 : thrOk 741455 608 80810 = true := by decide +kernel
theorem thr15 : thrOk 881743 663 89986 = true := by decide +kernel
theorem thr16 : thrOk 1048576 724 100606 = true := by decide +kernel
theorem thr17 : thrOk 1246974 789 111838 = true := by decide +kernel
theorem thr18 : thrOk 1482910 861 125538 = true := by decide +kernel
theorem thr19 : thrOk 1763487 939 139358 = true := by decide +kernel
theorem thr20 : thrOk 2097152 1024 154310 = true := by decide +kernel
theorem thr21 : thrOk 2493948 1116 170454 = true := by decide +kernel
theorem thr22 : thrOk 2965820 1217 187826 = true := by decide +kernel
theorem thr23 : thrOk 3526975 1327 205918 = true := by decide +kernel
theorem thr24 : thrOk 4194304 1448 227878 = true := by decide +kernel
theorem thr25 : thrOk 4987896 1579 250578 = true := by decide +kernel
theorem thr26 : thrOk 5931641 1722 275146 = true := by decide +kernel
theorem thr27 : thrOk 7053950 1878 302774 = true := by decide +kernel
theorem thr28 : thrOk 8388608 2048 333246 = true := by decide +kernel
theorem thr29 : thrOk 9975792 2233 366994 = true := by decide +kernel
theorem thr30 : thrOk 11863283 2435 403326 = true := by decide +kernel
theorem thr31 : thrOk 14107900 2655 441010 = true := by decide +kernel
theorem thr32 : thrOk 16777216 2896 489930 = true := by decide +kernel
theorem thr33 : thrOk 19951584 3158 532230 = true := by decide +kernel
theorem thr34 : thrOk 23726566 3444 584210 = true := by decide +kernel
theorem thr35 : thrOk 28215801 3756 643742 = true := by decide +kernel
theorem thr36 : thrOk 33554432 4096 701838 = true := by decide +kernel
theorem thr37 : thrOk 39903169 4466 780146 = true := by decide +kernel
theorem thr38 : thrOk 47453132 4870 854334 = true := by decide +kernel
theorem thr39 : thrOk 56431603 5311 931946 = true := by decide +kernel
theorem thr40 : thrOk 67108864 5792 1016786 = true := by decide +kernel
theorem thr41 : thrOk 79806338 6316 1116162 = true := by decide +kernel
theorem thr42 : thrOk 94906265 6888 1234818 = true := by decide +kernel
theorem thr43 : thrOk 112863206 7512 1340886 = true := by decide +kernel
theorem thr44 : thrOk 134217728 8192 1467030 = true := by decide +kernel
theorem thr45 : thrOk 159612677 8933 1588598 = true := by decide +kernel
theorem thr46 : thrOk 189812531 9741 1747094 = true := by decide +kernel
theorem thr47 : thrOk 225726412 10623 1899298 = true := by decide +kernel
theorem thr48 : thrOk 268435456 11585 2079386 = true := by decide +kernel
theorem thr49 : thrOk 319225354 12633 2272986 = true := by decide +kernel
theorem thr50 : thrOk 379625062 13777 2467610 = true := by decide +kernel
theorem thr51 : thrOk 451452825 15024 2689014 = true := by decide +kernel
theorem thr52 : thrOk 536870912 16384 2929934 = true := by decide +kernel
theorem thr53 : thrOk 638450708 17866 3180914 = true := by decide +kernel
theorem thr54 : thrOk 759250124 19483 3456906 = true := by decide +kernel
theorem thr55 : thrOk 902905650 21247 3752594 = true := by decide +kernel
theorem thr56 : thrOk 1073741824 23170 4060566 = true := by decide +kernel
theorem thr57 : thrOk 1276901416 25267 4407010 = true := by decide +kernel
theorem thr58 : thrOk 1518500249 27554 4784210 = true := by decide +kernel
theorem thr59 : thrOk 1805811301 30048 5179258 = true := by decide +kernel
theorem thr60 : thrOk 2147483648 32768 5608118 = true := by decide +kernel
theorem thr61 : thrOk 2553802833 35733 6075982 = true := by decide +kernel
theorem thr62 : thrOk 3037000499 38967 6534402 = true := by decide +kernel
theorem thr63 : thrOk 3611622602 42494 7077942 = true := by decide +kernel
/-- A bound W, the least exponent above it, and the next bound. -/
structure ThrE where
  W : Nat
  c : Nat
  V : Nat
def thrE0 : ThrE := ⟨65536, 15526, 77935⟩
def thrE1 : ThrE := ⟨77935, 17722, 92681⟩
def thrE2 : ThrE := ⟨92681, 19618, 110217⟩
def thrE3 : ThrE := ⟨110217, 22354, 131072⟩
def thrE4 : ThrE := ⟨131072, 25802, 155871⟩
def thrE5 : ThrE := ⟨155871, 28854, 185363⟩
def thrE6 : ThrE := ⟨185363, 32382, 220435⟩
def thrE7 : ThrE := ⟨220435, 35894, 262144⟩
def thrE8 : ThrE := ⟨262144, 41194, 311743⟩
def thrE9 : ThrE := ⟨311743, 46198, 370727⟩
def thrE10 : ThrE := ⟨370727, 51386, 440871⟩
def thrE11 : ThrE := ⟨440871, 57330, 524288⟩
def thrE12 : ThrE := ⟨524288, 64590, 623487⟩
def thrE13 : ThrE := ⟨623487, 72582, 741455⟩
def thrE14 : ThrE := ⟨741455, 80810, 881743⟩
def thrE15 : ThrE := ⟨881743, 89986, 1048576⟩
def thrE16 : ThrE := ⟨1048576, 100606, 1246974⟩
def thrE17 : ThrE := ⟨1246974, 111838, 1482910⟩
def thrE18 : ThrE := ⟨1482910, 125538, 1763487⟩
def thrE19 : ThrE := ⟨1763487, 139358, 2097152⟩
def thrE20 : ThrE := ⟨2097152, 154310, 2493948⟩
def thrE21 : ThrE := ⟨2493948, 170454, 2965820⟩
def thrE22 : ThrE := ⟨2965820, 187826, 3526975⟩
def thrE23 : ThrE := ⟨3526975, 205918, 4194304⟩
def thrE24 : ThrE := ⟨4194304, 227878, 4987896⟩
def thrE25 : ThrE := ⟨4987896, 250578, 5931641⟩
def thrE26 : ThrE := ⟨5931641, 275146, 7053950⟩
def thrE27 : ThrE := ⟨7053950, 302774, 8388608⟩
def thrE28 : ThrE := ⟨8388608, 333246, 9975792⟩
def thrE29 : ThrE := ⟨9975792, 366994, 11863283⟩
def thrE30 : ThrE := ⟨11863283, 403326, 14107900⟩
def thrE31 : ThrE := ⟨14107900, 441010, 16777216⟩
def thrE32 : ThrE := ⟨16777216, 489930, 19951584⟩
def thrE33 : ThrE := ⟨19951584, 532230, 23726566⟩
def thrE34 : ThrE := ⟨23726566, 584210, 28215801⟩
def thrE35 : ThrE := ⟨28215801, 643742, 33554432⟩
def thrE36 : ThrE := ⟨33554432, 701838, 39903169⟩
def thrE37 : ThrE := ⟨39903169, 780146, 47453132⟩
def thrE38 : ThrE := ⟨47453132, 854334, 56431603⟩
def thrE39 : ThrE := ⟨56431603, 931946, 67108864⟩
def thrE40 : ThrE := ⟨67108864, 1016786, 79806338⟩
def thrE41 : ThrE := ⟨79806338, 1116162, 94906265⟩
def thrE42 : ThrE := ⟨94906265, 1234818, 112863206⟩
def thrE43 : ThrE := ⟨112863206, 1340886, 134217728⟩
def thrE44 : ThrE := ⟨134217728, 1467030, 159612677⟩
def thrE45 : ThrE := ⟨159612677, 1588598, 189812531⟩
def thrE46 : ThrE := ⟨189812531, 1747094, 225726412⟩
def thrE47 : ThrE := ⟨225726412, 1899298, 268435456⟩
def thrE48 : ThrE := ⟨268435456, 2079386, 319225354⟩
def thrE49 : ThrE := ⟨319225354, 2272986, 379625062⟩
def thrE50 : ThrE := ⟨379625062, 2467610, 451452825⟩
def thrE51 : ThrE := ⟨451452825, 2689014, 536870912⟩
def thrE52 : ThrE := ⟨536870912, 2929934, 638450708⟩
def thrE53 : ThrE := ⟨638450708, 3180914, 759250124⟩
def thrE54 : ThrE := ⟨759250124, 3456906, 902905650⟩
def thrE55 : ThrE := ⟨902905650, 3752594, 1073741824⟩
def thrE56 : ThrE := ⟨1073741824, 4060566, 1276901416⟩
def thrE57 : ThrE := ⟨1276901416, 4407010, 1518500249⟩
def thrE58 : ThrE := ⟨1518500249, 4784210, 1805811301⟩
def thrE59 : ThrE := ⟨1805811301, 5179258, 2147483648⟩
def thrE60 : ThrE := ⟨2147483648, 5608118, 2553802833⟩
def thrE61 : ThrE := ⟨2553802833, 6075982, 3037000499⟩
def thrE62 : ThrE := ⟨3037000499, 6534402, 3611622602⟩
def thrE63 : ThrE := ⟨3611622602, 7077942, 4294967296⟩
def thrL : List ThrE := [thrE0, thrE1, thrE2, thrE3, thrE4, thrE5, thrE6, thrE7, thrE8, thrE9, thrE10, thrE11, thrE12, thrE13, thrE14, thrE15, thrE16, thrE17, thrE18, thrE19, thrE20, thrE21, thrE22, thrE23, thrE24, thrE25, thrE26, thrE27, thrE28, thrE29, thrE30, thrE31, thrE32, thrE33, thrE34, thrE35, thrE36, thrE37, thrE38, thrE39, thrE40, thrE41, thrE42, thrE43, thrE44, thrE45, thrE46, thrE47, thrE48, thrE49, thrE50, thrE51, thrE52, thrE53, thrE54, thrE55, thrE56, thrE57, thrE58, thrE59, thrE60, thrE61, thrE62, thrE63]
theorem thrL_ok : ∀ e ∈ thrL, ∃ X, thrOk e.W X e.c = true := by
  intro e he
  simp only [thrL, List.mem_cons, List.not_mem_nil, or_false] at he
  rcases he with rfl | rfl | rfl | rfl | rfl | rfl | rfl | rfl | rfl | rfl | rfl | rfl | rfl | rfl | rfl | rfl | rfl | rfl | rfl | rfl | rfl | rfl | rfl | rfl | rfl | rfl | rfl | rfl | rfl | rfl | rfl | rfl | rfl | rfl | rfl | rfl | rfl | rfl | rfl | rfl | rfl | rfl | rfl | rfl | rfl | rfl | rfl | rfl | rfl | rfl | rfl | rfl | rfl | rfl | rfl | rfl | rfl | rfl | rfl | rfl | rfl | rfl | rfl | rfl
  · exact ⟨_, thr0⟩
  · exact ⟨_, thr1⟩
  · exact ⟨_, thr2⟩
  · exact ⟨_, thr3⟩
  · exact ⟨_, thr4⟩
  · exact ⟨_, thr5⟩
  · exact ⟨_, thr6⟩
  · exact ⟨_, thr7⟩
  · exact ⟨_, thr8⟩
  · exact ⟨_, thr9⟩
  · exact ⟨_, thr10⟩
  · exact ⟨_, thr11⟩
  · exact ⟨_, thr12⟩
  · exact ⟨_, thr13⟩
  · exact ⟨_, thr14⟩
  · exact ⟨_, thr15⟩
  · exact ⟨_, thr16⟩
  · exact ⟨_, thr17⟩
  · exact ⟨_, thr18⟩
  · exact ⟨_, thr19⟩
  · exact ⟨_, thr20⟩
  · exact ⟨_, thr21⟩
  · exact ⟨_, thr22⟩
  · exact ⟨_, thr23⟩
  · exact ⟨_, thr24⟩
  · exact ⟨_, thr25⟩
  · exact ⟨_, thr26⟩
  · exact ⟨_, thr27⟩
  · exact ⟨_, thr28⟩
  · exact ⟨_, thr29⟩
  · exact ⟨_, thr30⟩
  · exact ⟨_, thr31⟩
  · exact ⟨_, thr32⟩
  · exact ⟨_, thr33⟩
  · exact ⟨_, thr34⟩
  · exact ⟨_, thr35⟩
  · exact ⟨_, thr36⟩
  · exact ⟨_, thr37⟩
  · exact ⟨_, thr38⟩
  · exact ⟨_, thr39⟩
  · exact ⟨_, thr40⟩
  · exact ⟨_, thr41⟩
  · exact ⟨_, thr42⟩
  · exact ⟨_, thr43⟩
  · exact ⟨_, thr44⟩
  · exact ⟨_, thr45⟩
  · exact ⟨_, thr46⟩
  · exact ⟨_, thr47⟩
  · exact ⟨_, thr48⟩
  · exact ⟨_, thr49⟩
  · exact ⟨_, thr50⟩
  · exact ⟨_, thr51⟩
  · exact ⟨_, thr52⟩
  · exact ⟨_, thr53⟩
  · exact ⟨_, thr54⟩
  · exact ⟨_, thr55⟩
  · exact ⟨_, thr56⟩
  · exact ⟨_, thr57⟩
  · exact ⟨_, thr58⟩
  · exact ⟨_, thr59⟩
  · exact ⟨_, thr60⟩
  · exact ⟨_, thr61⟩
  · exact ⟨_, thr62⟩
  · exact ⟨_, thr63⟩
/-- Some rows of it. -/
def thrD : List ThrE := [thrE0, thrE4, thrE8, thrE12, thrE16, thrE20, thrE24, thrE28, thrE32, thrE36, thrE40, thrE44, thrE48, thrE52, thrE56, thrE60]
theorem thrD_mem : ∀ e ∈ thrD, e ∈ thrL := by
  intro e he
  simp only [thrD, List.mem_cons, List.not_mem_nil, or_false] at he
  rcases he with rfl | rfl | rfl | rfl | rfl | rfl | rfl | rfl | rfl | rfl | rfl | rfl | rfl | rfl | rfl | rfl <;> simp [thrL]
theorem thrL_cov (w : Nat) (h1 : 65536 < w) (h2 : w < 4294967296) : ∃ e ∈ thrL, e.W < w ∧ w ≤ e.V := by
  by_cases h3 : w ≤ 77935
  · exact ⟨thrE0, by simp [thrL], by show 65536 < w; omega, h3⟩
  by_cases h4 : w ≤ 92681
  · exact ⟨thrE1, by simp [thrL], by show 77935 < w; omega, h4⟩
  by_cases h5 : w ≤ 110217
  · exact ⟨thrE2, by simp [thrL], by show 92681 < w; omega, h5⟩
  by_cases h6 : w ≤ 131072
  · exact ⟨thrE3, by simp [thrL], by show 110217 < w; omega, h6⟩
  by_cases h7 : w ≤ 155871
  · exact ⟨thrE4, by simp [thrL], by show 131072 < w; omega, h7⟩
  by_cases h8 : w ≤ 185363
  · exact ⟨thrE5, by simp [thrL], by show 155871 < w; omega, h8⟩
  by_cases h9 : w ≤ 220435
  · exact ⟨thrE6, by simp [thrL], by show 185363 < w; omega, h9⟩
  by_cases h10 : w ≤ 262144
  · exact ⟨thrE7, by simp [thrL], by show 220435 < w; omega, h10⟩
  by_cases h11 : w ≤ 311743
  · exact ⟨thrE8, by simp [thrL], by show 262144 < w; omega, h11⟩
  by_cases h12 : w ≤ 370727
  · exact ⟨thrE9, by simp [thrL], by show 311743 < w; omega, h12⟩
  by_cases h13 : w ≤ 440871
  · exact ⟨thrE10, by simp [thrL], by show 370727 < w; omega, h13⟩
  by_cases h14 : w ≤ 524288
  · exact ⟨thrE11, by simp [thrL], by show 440871 < w; omega, h14⟩
  by_cases h15 : w ≤ 623487
  · exact ⟨thrE12, by simp [thrL], by show 524288 < w; omega, h15⟩
  by_cases h16 : w ≤ 741455
  · exact ⟨thrE13, by simp [thrL], by show 623487 < w; omega, h16⟩
  by_cases h17 : w ≤ 881743
  · exact ⟨thrE14, by simp [thrL], by show 741455 < w; omega, h17⟩
  by_cases h18 : w ≤ 1048576
  · exact ⟨thrE15, by simp [thrL], by show 881743 < w; omega, h18⟩
  by_cases h19 : w ≤ 1246974
  · exact ⟨thrE16, by simp [thrL], by show 1048576 < w; omega, h19⟩
  by_cases h20 : w ≤ 1482910
  · exact ⟨thrE17, by simp [thrL], by show 1246974 < w; omega, h20⟩
  by_cases h21 : w ≤ 1763487
  · exact ⟨thrE18, by simp [thrL], by show 1482910 < w; omega, h21⟩
  by_cases h22 : w ≤ 2097152
  · exact ⟨thrE19, by simp [thrL], by show 1763487 < w; omega, h22⟩
  by_cases h23 : w ≤ 2493948
  · exact ⟨thrE20, by simp [thrL], by show 2097152 < w; omega, h23⟩
  by_cases h24 : w ≤ 2965820
  · exact ⟨thrE21, by simp [thrL], by show 2493948 < w; omega, h24⟩
  by_cases h25 : w ≤ 3526975
  · exact ⟨thrE22, by simp [thrL], by show 2965820 < w; omega, h25⟩
  by_cases h26 : w ≤ 4194304
  · exact ⟨thrE23, by simp [thrL], by show 3526975 < w; omega, h26⟩
  by_cases h27 : w ≤ 4987896
  · exact ⟨thrE24, by simp [thrL], by show 4194304 < w; omega, h27⟩
  by_cases h28 : w ≤ 5931641
  · exact ⟨thrE25, by simp [thrL], by show 4987896 < w; omega, h28⟩
  by_cases h29 : w ≤ 7053950
  · exact ⟨thrE26, by simp [thrL], by show 5931641 < w; omega, h29⟩
  by_cases h30 : w ≤ 8388608
  · exact ⟨thrE27, by simp [thrL], by show 7053950 < w; omega, h30⟩
  by_cases h31 : w ≤ 9975792
  · exact ⟨thrE28, by simp [thrL], by show 8388608 < w; omega, h31⟩
  by_cases h32 : w ≤ 11863283
  · exact ⟨thrE29, by simp [thrL], by show 9975792 < w; omega, h32⟩
  by_cases h33 : w ≤ 14107900
  · exact ⟨thrE30, by simp [thrL], by show 11863283 < w; omega, h33⟩
  by_cases h34 : w ≤ 16777216
  · exact ⟨thrE31, by simp [thrL], by show 14107900 < w; omega, h34⟩
  by_cases h35 : w ≤ 19951584
  · exact ⟨thrE32, by simp [thrL], by show 16777216 < w; omega, h35⟩
  by_cases h36 : w ≤ 23726566
  · exact ⟨thrE33, by simp [thrL], by show 19951584 < w; omega, h36⟩
  by_cases h37 : w ≤ 28215801
  · exact ⟨thrE34, by simp [thrL], by show 23726566 < w; omega, h37⟩
  by_cases h38 : w ≤ 33554432
  · exact ⟨thrE35, by simp [thrL], by show 28215801 < w; omega, h38⟩
  by_cases h39 : w ≤ 39903169
  · exact ⟨thrE36, by simp [thrL], by show 33554432 < w; omega, h39⟩
  by_cases h40 : w ≤ 47453132
  · exact ⟨thrE37, by simp [thrL], by show 39903169 < w; omega, h40⟩
  by_cases h41 : w ≤ 56431603
  · exact ⟨thrE38, by simp [thrL], by show 47453132 < w; omega, h41⟩
  by_cases h42 : w ≤ 67108864
  · exact ⟨thrE39, by simp [thrL], by show 56431603 < w; omega, h42⟩
  by_cases h43 : w ≤ 79806338
  · exact ⟨thrE40, by simp [thrL], by show 67108864 < w; omega, h43⟩
  by_cases h44 : w ≤ 94906265
  · exact ⟨thrE41, by simp [thrL], by show 79806338 < w; omega, h44⟩
  by_cases h45 : w ≤ 112863206
  · exact ⟨thrE42, by simp [thrL], by show 94906265 < w; omega, h45⟩
  by_cases h46 : w ≤ 134217728
  · exact ⟨thrE43, by simp [thrL], by show 112863206 < w; omega, h46⟩
  by_cases h47 : w ≤ 159612677
  · exact ⟨thrE44, by simp [thrL], by show 134217728 < w; omega, h47⟩
  by_cases h48 : w ≤ 189812531
  · exact ⟨thrE45, by simp [thrL], by show 159612677 < w; omega, h48⟩
  by_cases h49 : w ≤ 225726412
  · exact ⟨thrE46, by simp [thrL], by show 189812531 < w; omega, h49⟩
  by_cases h50 : w ≤ 268435456
  · exact ⟨thrE47, by simp [thrL], by show 225726412 < w; omega, h50⟩
  by_cases h51 : w ≤ 319225354
  · exact ⟨thrE48, by simp [thrL], by show 268435456 < w; omega, h51⟩
  by_cases h52 : w ≤ 379625062
  · exact ⟨thrE49, by simp [thrL], by show 319225354 < w; omega, h52⟩
  by_cases h53 : w ≤ 451452825
  · exact ⟨thrE50, by simp [thrL], by show 379625062 < w; omega, h53⟩
  by_cases h54 : w ≤ 536870912
  · exact ⟨thrE51, by simp [thrL], by show 451452825 < w; omega, h54⟩
  by_cases h55 : w ≤ 638450708
  · exact ⟨thrE52, by simp [thrL], by show 536870912 < w; omega, h55⟩
  by_cases h56 : w ≤ 759250124
  · exact ⟨thrE53, by simp [thrL], by show 638450708 < w; omega, h56⟩
  by_cases h57 : w ≤ 902905650
  · exact ⟨thrE54, by simp [thrL], by show 759250124 < w; omega, h57⟩
  by_cases h58 : w ≤ 1073741824
  · exact ⟨thrE55, by simp [thrL], by show 902905650 < w; omega, h58⟩
  by_cases h59 : w ≤ 1276901416
  · exact ⟨thrE56, by simp [thrL], by show 1073741824 < w; omega, h59⟩
  by_cases h60 : w ≤ 1518500249
  · exact ⟨thrE57, by simp [thrL], by show 1276901416 < w; omega, h60⟩
  by_cases h61 : w ≤ 1805811301
  · exact ⟨thrE58, by simp [thrL], by show 1518500249 < w; omega, h61⟩
  by_cases h62 : w ≤ 2147483648
  · exact ⟨thrE59, by simp [thrL], by show 1805811301 < w; omega, h62⟩
  by_cases h63 : w ≤ 2553802833
  · exact ⟨thrE60, by simp [thrL], by show 2147483648 < w; omega, h63⟩
  by_cases h64 : w ≤ 3037000499
  · exact ⟨thrE61, by simp [thrL], by show 2553802833 < w; omega, h64⟩
  by_cases h65 : w ≤ 3611622602
  · exact ⟨thrE62, by simp [thrL], by show 3037000499 < w; omega, h65⟩
  exact ⟨thrE63, by simp [thrL], by show 3611622602 < w; omega, by show w ≤ 4294967296; omega⟩
end Go.Proofs.YtpphfeinmmmckaaDoor

/- Row: Plain: the check of all pairs of primes 1 + s r and 1 + I r for one odd I: all odd s below it, all r. -/
namespace Go.Proofs.YtpphfeinmmmckaaDoor
open Nt

def least (a b : Nat) : Nat := Nat.sub a (Nat.sub a b)
theorem least_le (a b : Nat) : least a b ≤ a ∧ least a b ≤ b ∧ (least a b = a ∨ least a b = b) := by
  show a - (a - b) ≤ a ∧ a - (a - b) ≤ b ∧ (a - (a - b) = a ∨ a - (a - b) = b)
  omega

/-- The least r that a prime 1 + I r lets. -/
def rmin (I : Nat) : List ThrE → Nat
  | [] => 18446744073709551616
  | e :: l => bif Nat.blt (Nat.mul I e.c) e.V then least e.c (rmin I l) else rmin I l

theorem rmin_le {I : Nat} : ∀ {l : List ThrE} {e : ThrE}, e ∈ l → I * e.c < e.V → rmin I l ≤ e.c
  | [], e, he, _ => by simp at he
  | f :: l, e, he, h => by
    rw [rmin]
    rcases List.mem_cons.1 he with rfl | he
    · have hb : Nat.blt (Nat.mul I e.c) e.V = true := Nat.ble_eq_true_of_le h
      rw [hb, cond_true]
      exact (least_le _ _).1
    · have ih := rmin_le he h
      cases Nat.blt (Nat.mul I f.c) f.V with
      | true => rw [cond_true]; have := (least_le f.c (rmin I l)).2.1; omega
      | false => rw [cond_false]; exact ih

/-- For one s. -/
noncomputable def rowS (rs : List (Grp × Nat)) (I lo hI qm s : Nat) : Bool :=
  Bool.rec (motive := fun _ => Bool) true (force (least hI (Nat.div qm s)) fun hi => Bool.rec (motive := fun _ => Bool) (unit rs s I lo hi) true (Nat.blt hi lo)) (Nat.beq (Nat.gcd s I) 1)

/-- For all odd s below 2 n. -/
noncomputable def rowN (rs : List (Grp × Nat)) (I lo hI qm n : Nat) : Bool :=
  Nat.rec (motive := fun _ => Bool) true (fun t ih => Bool.rec (motive := fun _ => Bool) false ih (force (Nat.succ (Nat.mul 2 t)) (rowS rs I lo hI qm))) n

noncomputable def row (wm qm I : Nat) : Bool :=
  force (rmin I thrL) fun lo => force (Nat.div wm I) fun hI =>
    Bool.rec (motive := fun _ => Bool) (reps (Nat.sub (Nat.div hI 210) (Nat.div lo 210)) (fun rs => rowN rs I lo hI qm (Nat.div I 2)) grps []) true (Nat.blt hI lo)

theorem rowN_spec {rs : List (Grp × Nat)} {I lo hI qm : Nat} : ∀ {n : Nat}, rowN rs I lo hI qm n = true → ∀ t, t < n → rowS rs I lo hI qm (2 * t + 1) = true
  | 0, _, t, ht => absurd ht (Nat.not_lt_zero _)
  | n + 1, h, t, ht => by
    have h' : Bool.rec (motive := fun _ => Bool) false (rowN rs I lo hI qm n) (force (Nat.succ (Nat.mul 2 n)) (rowS rs I lo hI qm)) = true := h
    rw [force_eq] at h'
    cases hb : rowS rs I lo hI qm (Nat.succ (Nat.mul 2 n)) with
    | false => rw [hb] at h'; cases h'
    | true =>
      rw [hb] at h'
      rcases Nat.lt_succ_iff_lt_or_eq.1 ht with h1 | rfl
      · exact rowN_spec (n := n) h' t h1
      · exact hb

theorem blt_false {a b : Nat} (h : ¬ a < b) : Nat.blt a b = false := by
  rcases hb : Nat.blt a b with _ | _
  · rfl
  · exact absurd (Nat.le_of_ble_eq_true hb) h

theorem row_spec {wm qm I s r : Nat} (h : row wm qm I = true) (hs : s % 2 = 1) (hI : I % 2 = 1) (hsI : s < I) (hg : Nat.gcd s I = 1) (T : Twin s I r) (h1 : rmin I thrL ≤ r) (h2 : I * r ≤ wm) (h3 : s * r ≤ qm) : False := by
  have hIr : r ≤ wm / I := (Nat.le_div_iff_mul_le (by omega)).2 (by rw [Nat.mul_comm]; exact h2)
  have hsr : r ≤ qm / s := (Nat.le_div_iff_mul_le (by omega)).2 (by rw [Nat.mul_comm]; exact h3)
  unfold row at h
  rw [force_eq, force_eq] at h
  have hb : Nat.blt (Nat.div wm I) (rmin I thrL) = false := blt_false (by show ¬ wm / I < rmin I thrL; omega)
  rw [hb] at h
  have h' : reps (Nat.sub (Nat.div (Nat.div wm I) 210) (Nat.div (rmin I thrL) 210)) (fun rs => rowN rs I (rmin I thrL) (Nat.div wm I) qm (Nat.div I 2)) grps [] = true := h
  obtain ⟨rs, h4, h5⟩ := reps_spec h'
  have h6 := rowN_spec h4 (s / 2) (by show s / 2 < I / 2; omega)
  rw [show 2 * (s / 2) + 1 = s by omega] at h6
  unfold rowS at h6
  rw [force_eq, hg] at h6
  have h6' : Bool.rec (motive := fun _ => Bool) (unit rs s I (rmin I thrL) (least (Nat.div wm I) (Nat.div qm s))) true (Nat.blt (least (Nat.div wm I) (Nat.div qm s)) (rmin I thrL)) = true := h6
  have hle := least_le (Nat.div wm I) (Nat.div qm s)
  have hrl : r ≤ least (Nat.div wm I) (Nat.div qm s) := by
    rcases hle.2.2 with e | e
    · rw [e]; exact hIr
    · rw [e]; exact hsr
  have hb2 : Nat.blt (least (Nat.div wm I) (Nat.div qm s)) (rmin I thrL) = false := blt_false (by omega)
  rw [hb2] at h6'
  refine unit_spec (W := wm / I / 210 - rmin I thrL / 210) (fun e he => ?_) ?_ h6' hs hI T h1 hrl
  · rcases h5 e he with h7 | h7
    · simp at h7
    · exact h7
  · have : least (Nat.div wm I) (Nat.div qm s) / 210 ≤ wm / I / 210 := Nat.div_le_div_right hle.1
    omega
end Go.Proofs.YtpphfeinmmmckaaDoor
