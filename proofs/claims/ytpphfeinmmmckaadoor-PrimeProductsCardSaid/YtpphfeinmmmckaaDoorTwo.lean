/-
  Plain: two primes 1 + s r and 1 + I r, s and I odd, whose characters are the same and whose bases r kills: a check for one s and I, by a sieve over r.
-/
import Derived.Test.YtpphfeinmmmckaaDoorTwoT
namespace Go.Proofs.YtpphfeinmmmckaaDoor
open Nt

def mkB (s i : Nat) (e : Nat × Nat × Nat × Nat) : Nat := mask e.1 e.2.1 e.2.2.1 s i

/-- The patterns of the groups, reckoned, handed to k. -/
noncomputable def build (mk : Nat × Nat × Nat × Nat → Nat) (k : List (Nat → Nat → Nat) → Bool) (l : List (Grp × Nat)) : List (Nat → Nat → Nat) → Bool :=
  List.rec (motive := fun _ => List (Nat → Nat → Nat) → Bool) k (fun g _ ih acc => force (Nat.mul (grp mk g.1.l g.1.U) g.2) fun E => ih (turned E g.1.d g.1.inv :: acc)) l

theorem build_spec {mk : Nat × Nat × Nat × Nat → Nat} {k : List (Nat → Nat → Nat) → Bool} : ∀ {l : List (Grp × Nat)} {acc : List (Nat → Nat → Nat)}, build mk k l acc = true →
    ∃ r, k r = true ∧ ∀ e ∈ r, e ∈ acc ∨ ∃ g ∈ l, e = turned (grp mk g.1.l g.1.U * g.2) g.1.d g.1.inv
  | [], acc, h => ⟨acc, h, fun _ he => .inl he⟩
  | g :: l, acc, h => by
    have h' : (force (Nat.mul (grp mk g.1.l g.1.U) g.2) fun E => build mk k l (turned E g.1.d g.1.inv :: acc)) = true := h
    rw [force_eq] at h'
    obtain ⟨r, h1, h2⟩ := build_spec h'
    refine ⟨r, h1, fun e he => ?_⟩
    rcases h2 e he with h3 | ⟨g', hg', h3⟩
    · rcases List.mem_cons.1 h3 with h4 | h4
      · exact .inr ⟨g, by simp, h4⟩
      · exact .inl h4
    · exact .inr ⟨g', by simp [hg'], h3⟩

/-- The groups with what repeats their masks over W places. -/
noncomputable def reps (W : Nat) (k : List (Grp × Nat) → Bool) (l : List Grp) : List (Grp × Nat) → Bool :=
  List.rec (motive := fun _ => List (Grp × Nat) → Bool) k (fun g _ ih acc => force (repD g.d (Nat.add (Nat.div W g.d) 2)) fun R => ih ((g, R) :: acc)) l

theorem reps_spec {W : Nat} {k : List (Grp × Nat) → Bool} : ∀ {l : List Grp} {acc : List (Grp × Nat)}, reps W k l acc = true →
    ∃ r, k r = true ∧ ∀ e ∈ r, e ∈ acc ∨ (e.1 ∈ l ∧ e.2 = repD e.1.d (W / e.1.d + 2))
  | [], acc, h => ⟨acc, h, fun _ he => .inl he⟩
  | g :: l, acc, h => by
    have h' : (force (repD g.d (Nat.add (Nat.div W g.d) 2)) fun R => reps W k l ((g, R) :: acc)) = true := h
    rw [force_eq] at h'
    obtain ⟨r, h1, h2⟩ := reps_spec h'
    refine ⟨r, h1, fun e he => ?_⟩
    rcases h2 e he with h3 | ⟨h3, h5⟩
    · rcases List.mem_cons.1 h3 with h4 | h4
      · rw [h4]; exact .inr ⟨by simp, rfl⟩
      · exact .inl h4
    · exact .inr ⟨List.mem_cons_of_mem _ h3, h5⟩

/-- What is asked of r = D j, j = c + 105 (o + t). -/
noncomputable def ck (sD iD s' i' D c o t : Nat) : Bool :=
  Bool.rec (motive := fun _ => Bool) true
    (Bool.rec (motive := fun _ => Bool) true
      (tst3 (Nat.add (Nat.succ (Nat.mul iD (Nat.add c (Nat.mul 105 o)))) (Nat.mul i' t)) (Nat.mul D (Nat.add c (Nat.mul 105 (Nat.add o t)))) ||
        tst3 (Nat.add (Nat.succ (Nat.mul sD (Nat.add c (Nat.mul 105 o)))) (Nat.mul s' t)) (Nat.mul D (Nat.add c (Nat.mul 105 (Nat.add o t)))))
      (Nat.beq (pow3 2 (Nat.mul D (Nat.add c (Nat.mul 105 (Nat.add o t)))) (Nat.add (Nat.succ (Nat.mul iD (Nat.add c (Nat.mul 105 o)))) (Nat.mul i' t))) 1))
    (Nat.beq (Nat.gcd prodP (Nat.mul (Nat.add (Nat.succ (Nat.mul iD (Nat.add c (Nat.mul 105 o)))) (Nat.mul i' t)) (Nat.add (Nat.succ (Nat.mul sD (Nat.add c (Nat.mul 105 o)))) (Nat.mul s' t)))) 1)

theorem prodP_not {p : Nat} (hp : Prime p) (h : 15000 ≤ p) : ¬ p ∣ prodP := by
  rw [prodP_eq]
  refine prod_coprime hp _ fun x hx hd => ?_
  have h1 := smallP_lt x hx
  have := Nat.le_of_dvd h1.1 hd
  omega

theorem ck_spec {sD iD D c o t j : Nat} (h : ck sD iD (105 * sD) (105 * iD) D c o t = true) (hj : j = c + 105 * (o + t)) (hw : Prime (iD * j + 1)) (hq : Prime (sD * j + 1)) (hw2 : 15000 ≤ iD * j + 1) (hq2 : 15000 ≤ sD * j + 1)
    (hkw : Kills (D * j) (iD * j + 1)) (hkq : Kills (D * j) (sD * j + 1)) : False := by
  unfold ck at h
  have key : ∀ x, Nat.add (Nat.succ (Nat.mul x (Nat.add c (Nat.mul 105 o)))) (Nat.mul (105 * x) t) = x * j + 1 := by
    intro x
    show x * (c + 105 * o) + 1 + 105 * x * t = x * j + 1
    rw [hj, Nat.mul_add 105, ← Nat.add_assoc, Nat.mul_add x (c + 105 * o)]
    have : 105 * x * t = x * (105 * t) := by ac_rfl
    omega
  have ej : Nat.add c (Nat.mul 105 (Nat.add o t)) = j := hj.symm
  rw [key, key, ej] at h
  have hg : Nat.gcd prodP (Nat.mul (iD * j + 1) (sD * j + 1)) = 1 := by
    have h1 : Nat.Coprime prodP (iD * j + 1) := by
      rw [Nat.coprime_comm]; exact prime_coprime hw (prodP_not hw hw2)
    have h2 : Nat.Coprime prodP (sD * j + 1) := by
      rw [Nat.coprime_comm]; exact prime_coprime hq (prodP_not hq hq2)
    exact h1.mul_right h2
  rw [hg] at h
  have hp : pow3 2 (Nat.mul D j) (iD * j + 1) = 1 := by rw [pow3_eq]; exact hkw 2 (by decide)
  rw [hp] at h
  have h' : (tst3 (iD * j + 1) (D * j) || tst3 (sD * j + 1) (D * j)) = true := h
  rw [Bool.or_eq_true] at h'
  rcases h' with h1 | h1
  · exact tst3_not h1 hkw
  · exact tst3_not h1 hkq

def dOf (s I : Nat) : Nat := bif Nat.beq (Nat.mod s 4) (Nat.mod I 4) then 2 else 4

/-- No two such primes with r from lo to hi. rs: the groups with what repeats their masks. -/
noncomputable def unit (rs : List (Grp × Nat)) (s I lo hi : Nat) : Bool :=
  force (dOf s I) fun D => force (Nat.mul s D) fun sD => force (Nat.mul I D) fun iD => force (Nat.mul 105 sD) fun s' => force (Nat.mul 105 iD) fun i' =>
  force (Nat.div lo (Nat.mul 105 D)) fun a => force (Nat.succ (Nat.sub (Nat.div hi (Nat.mul 105 D)) a)) fun n =>
   build (mkB s' i') (fun l => peel pos (fun c => force c fun c => scan pos (ck sD iD s' i' D c) (Nat.succ (Nat.div n 131072)) (inter a c l (Nat.sub (Nat.pow 2 n) 1)) a) 106 (grp (mkB sD iD) grpL0 grpU0)) rs []

/-- What is said of two such primes. -/
structure Twin (s I r : Nat) : Prop where
  q : Prime (1 + s * r)
  w : Prime (1 + I * r)
  q2 : 15000 ≤ 1 + s * r
  w2 : 15000 ≤ 1 + I * r
  even : r % 2 = 0
  kq : Kills r (1 + s * r)
  kw : Kills r (1 + I * r)
  chi : ∀ b ∈ baseL, gchi b (1 + s * r) = gchi b (1 + I * r)

theorem twin_mod4 {s I r : Nat} (hs : s % 2 = 1) (hI : I % 2 = 1) (hr : r % 2 = 0) : (1 + s * r) % 2 = 1 ∧ (1 + s * r) % 4 = (1 + I * r) % 4 := by
  obtain ⟨a, rfl⟩ : ∃ a, s = 2 * a + 1 := ⟨s / 2, by omega⟩
  obtain ⟨b, rfl⟩ : ∃ b, I = 2 * b + 1 := ⟨I / 2, by omega⟩
  obtain ⟨t, rfl⟩ : ∃ t, r = 2 * t := ⟨r / 2, by omega⟩
  have e1 : (2 * a + 1) * (2 * t) = 4 * (a * t) + 2 * t := by rw [Nat.add_mul, Nat.mul_mul_mul_comm]; omega
  have e2 : (2 * b + 1) * (2 * t) = 4 * (b * t) + 2 * t := by rw [Nat.add_mul, Nat.mul_mul_mul_comm]; omega
  rw [e1, e2]
  omega

theorem twin_D {s I r : Nat} (T : Twin s I r) (hs : s % 2 = 1) (hI : I % 2 = 1) : r = dOf s I * (r / dOf s I) ∧ 0 < dOf s I := by
  have hr := T.even
  obtain ⟨h1, h2⟩ := twin_mod4 hs hI hr
  have h3 := two_same h1 h2 (T.chi 2 (by decide))
  unfold dOf
  cases hb : Nat.beq (Nat.mod s 4) (Nat.mod I 4) with
  | true => rw [cond_true]; omega
  | false =>
    rw [cond_false]
    have hne : s % 4 ≠ I % 4 := fun h => by
      have : Nat.beq (s % 4) (I % 4) = true := by rw [h]; exact Nat.beq_refl _
      have hb' : Nat.beq (s % 4) (I % 4) = false := hb
      rw [this] at hb'; cases hb'
    suffices r % 4 = 0 by omega
    clear hb h2
    obtain ⟨a, rfl⟩ : ∃ a, s = 2 * a + 1 := ⟨s / 2, by omega⟩
    obtain ⟨b, rfl⟩ : ∃ b, I = 2 * b + 1 := ⟨I / 2, by omega⟩
    obtain ⟨t, rfl⟩ : ∃ t, r = 2 * t := ⟨r / 2, by omega⟩
    have e1 : (2 * a + 1) * (2 * t) = 4 * (a * t) + 2 * t := by rw [Nat.add_mul, Nat.mul_mul_mul_comm]; omega
    have e2 : (2 * b + 1) * (2 * t) = 4 * (b * t) + 2 * t := by rw [Nat.add_mul, Nat.mul_mul_mul_comm]; omega
    rw [e1, e2] at h3
    rcases Nat.mod_two_eq_zero_or_one t with h4 | h4
    · omega
    · exfalso
      obtain ⟨u, rfl⟩ : ∃ u, t = 2 * u + 1 := ⟨t / 2, by omega⟩
      have e3 : a * (2 * u + 1) = 2 * (a * u) + a := by rw [Nat.mul_add, Nat.mul_left_comm]; omega
      have e4 : b * (2 * u + 1) = 2 * (b * u) + b := by rw [Nat.mul_add, Nat.mul_left_comm]; omega
      rw [e3, e4] at h3
      omega

theorem prime_mod_ne {p l : Nat} (hp : Prime p) (h1 : 1 < l) (h2 : l < p) : p % l ≠ 0 := fun h => by
  rcases hp.2 l (Nat.dvd_of_mod_eq_zero h) with h3 | h3 <;> omega

theorem oddB_base : ∀ l ∈ oddB, l ∈ baseL := by decide
theorem oddB_lt : ∀ l ∈ oddB, 1 < l ∧ l ≤ 37 := by decide

/-- The colours of two such primes are the same. -/
theorem twin_col {s I r l : Nat} (T : Twin s I r) (hs : s % 2 = 1) (hI : I % 2 = 1) (hl : l ∈ oddB ∨ (37 < l ∧ l < 15000)) :
    (1 + s * r) % l ≠ 0 ∧ (1 + I * r) % l ≠ 0 ∧ col l ((1 + s * r) % l) = col l ((1 + I * r) % l) := by
  have hq2 := T.q2
  have hw2 := T.w2
  have hb : 1 < l ∧ l < 15000 := by
    rcases hl with h | h
    · have := oddB_lt l h; omega
    · omega
  have n1 := prime_mod_ne T.q hb.1 (by omega)
  have n2 := prime_mod_ne T.w hb.1 (by omega)
  refine ⟨n1, n2, ?_⟩
  unfold col
  rcases hl with h | h
  · have h37 := (oddB_lt l h).2
    have : Nat.ble l 37 = true := Nat.ble_eq_true_of_le h37
    rw [this, cond_true, cond_true]
    obtain ⟨h1, h2⟩ := twin_mod4 hs hI T.even
    exact leg_same h h1 h2 n1 n2 (T.chi l (oddB_base l h))
  · have : Nat.ble l 37 = false := by
      rcases hb : Nat.ble l 37 with _ | _
      · rfl
      · have := Nat.le_of_ble_eq_true hb; omega
    rw [this]; rfl

/-- The bits of a class and of its place. -/
theorem turn_mod {sD i c inv d l : Nat} (hinv : 105 * inv % d = 1) (hl : d % l = 0) : (1 + 105 * sD * (i + c * inv)) % l = (1 + sD * (c + 105 * i)) % l := by
  have h1 : 105 * inv % l = 1 % l := by
    have hd : l ∣ d := Nat.dvd_of_mod_eq_zero hl
    rw [← Nat.mod_mod_of_dvd _ hd, hinv]
  have e1 : 105 * sD * (i + c * inv) = sD * (105 * i) + sD * c * (105 * inv) := by
    rw [Nat.mul_add]
    congr 1 <;> ac_rfl
  have e2 : sD * (c + 105 * i) = sD * (105 * i) + sD * c * 1 := by rw [Nat.mul_add, Nat.mul_one, Nat.add_comm]
  have h3 : sD * c * (105 * inv) % l = sD * c * 1 % l := by rw [Nat.mul_mod, h1, ← Nat.mul_mod]
  rw [e1, e2, ← Nat.add_assoc, ← Nat.add_assoc, Nat.add_mod, h3, ← Nat.add_mod]

theorem unit_spec {rs : List (Grp × Nat)} {W s I lo hi r : Nat} (hrs : ∀ e ∈ rs, e.1 ∈ grps ∧ e.2 = repD e.1.d (W / e.1.d + 2)) (hW : hi / 210 ≤ lo / 210 + W) (h : unit rs s I lo hi = true)
    (hs : s % 2 = 1) (hI : I % 2 = 1) (T : Twin s I r) (h1 : lo ≤ r) (h2 : r ≤ hi) : False := by
  unfold unit at h
  simp only [force_eq] at h
  obtain ⟨D, hD⟩ : ∃ D, D = dOf s I := ⟨_, rfl⟩
  have hD24 : D = 2 ∨ D = 4 := by
    rw [hD]; unfold dOf
    cases Nat.beq (Nat.mod s 4) (Nat.mod I 4) with
    | true => exact .inl rfl
    | false => exact .inr rfl
  obtain ⟨hrD, hD0⟩ := twin_D T hs hI
  rw [← hD] at h hrD hD0
  obtain ⟨j, hj⟩ : ∃ j, j = r / D := ⟨_, rfl⟩
  rw [← hj] at hrD
  obtain ⟨c, hc⟩ : ∃ c, c = j % 105 := ⟨_, rfl⟩
  obtain ⟨i, hi'⟩ : ∃ i, i = j / 105 := ⟨_, rfl⟩
  have hji : j = c + 105 * i := by omega
  have eq1 : s * r = s * D * j := by rw [Nat.mul_assoc, ← hrD]
  have ew1 : I * r = I * D * j := by rw [Nat.mul_assoc, ← hrD]
  obtain ⟨rr, h3, h4⟩ := build_spec h
  have hcb : (grp (mkB (Nat.mul s D) (Nat.mul I D)) grpL0 grpU0).testBit c = true := by
    refine grp_spec ?_ fun e he => ?_
    · rw [grpU0_eq, Nat.testBit_two_pow_sub_one]; exact decide_eq_true (by omega)
    · have hok := List.all_eq_true.1 grpL0_ok e he
      rw [Bool.and_eq_true, Bool.and_eq_true] at hok
      obtain ⟨⟨k1, k2⟩, k3⟩ := hok
      have hdv : 105 % e.1 = 0 := Nat.eq_of_beq_eq_true k3
      obtain ⟨n1, n2, n3⟩ := twin_col T hs hI (.inl (grp0_mem e he))
      rw [eq1] at n1 n3
      rw [ew1] at n2 n3
      have h5 := mask_bit k1 n1 n2 n3
      have hce : c % e.1 = j % e.1 := by rw [hc]; exact Nat.mod_mod_of_dvd j (Nat.dvd_of_mod_eq_zero hdv)
      refine ⟨h5.1, by rw [hce]; exact h5.2, 105 / e.1, ?_, isRep_eq k2⟩
      have := Nat.div_add_mod 105 e.1
      omega
  have h5 := peel_spec h3 c hcb
  obtain ⟨a, ha⟩ : ∃ a, a = lo / (105 * D) := ⟨_, rfl⟩
  obtain ⟨n, hn⟩ : ∃ n, n = hi / (105 * D) - a + 1 := ⟨_, rfl⟩
  have en : Nat.succ (Nat.sub (Nat.div hi (Nat.mul 105 D)) (Nat.div lo (Nat.mul 105 D))) = n := by rw [hn, ha]; rfl
  have ea : Nat.div lo (Nat.mul 105 D) = a := ha.symm
  rw [en, ea] at h5
  have h6 : scan pos (ck (s * D) (I * D) (105 * (s * D)) (105 * (I * D)) D c) (n / 131072 + 1) (inter a c rr (2 ^ n - 1)) a = true := h5
  have hdiv : i = r / (105 * D) := by rw [hi', hj, Nat.div_div_eq_div_mul, Nat.mul_comm D]
  have hlo : a ≤ i := by rw [ha, hdiv]; exact Nat.div_le_div_right h1
  have hhi : i ≤ hi / (105 * D) := by rw [hdiv]; exact Nat.div_le_div_right h2
  have hnW : n ≤ W + 1 := by
    rw [hn, ha]
    rcases hD24 with e | e
    · rw [e]; omega
    · rw [e]; omega
  have hX : inter a c rr (2 ^ n - 1) < 2 ^ ((n / 131072 + 1) * 131072) := by
    have h7 : inter a c rr (2 ^ n - 1) < 2 ^ n := inter_lt (by have := Nat.two_pow_pos n; omega)
    have h8 : 2 ^ n ≤ 2 ^ ((n / 131072 + 1) * 131072) := Nat.pow_le_pow_right (by omega) (by omega)
    omega
  have hbit : (inter a c rr (2 ^ n - 1)).testBit (i - a) = true := by
    refine inter_spec ?_ fun f hf => ?_
    · rw [Nat.testBit_two_pow_sub_one]; exact decide_eq_true (by omega)
    rcases h4 f hf with h8 | ⟨g, hg, h8⟩
    · simp at h8
    · obtain ⟨hgm, hgR⟩ := hrs g hg
      have G := grps_ok g.1 hgm
      have hm : grp (mkB (Nat.mul 105 (Nat.mul s D)) (Nat.mul 105 (Nat.mul I D))) g.1.l g.1.U < 2 ^ g.1.d := by
        refine grp_lt ?_
        rw [G.U]
        have := Nat.two_pow_pos g.1.d
        omega
      have hP : Pat (W + 1) g.1.d (grp (mkB (Nat.mul 105 (Nat.mul s D)) (Nat.mul 105 (Nat.mul I D))) g.1.l g.1.U) (grp (mkB (Nat.mul 105 (Nat.mul s D)) (Nat.mul 105 (Nat.mul I D))) g.1.l g.1.U * g.2) := by
        refine pat_rep G.d0 hm (by rw [hgR]; exact repD_eq G.d0) ?_
        have h9 := Nat.div_add_mod W g.1.d
        have h10 := Nat.mod_lt W G.d0
        rw [Nat.mul_add]
        omega
      rw [h8]
      refine turned_bit hP (by omega) ?_
      rw [show a + (i - a) = i by omega]
      show (grp (mkB (105 * (s * D)) (105 * (I * D))) g.1.l g.1.U).testBit ((i + c * g.1.inv) % g.1.d) = true
      have hx : (i + c * g.1.inv) % g.1.d < g.1.d := Nat.mod_lt _ G.d0
      refine grp_spec ?_ fun f hf => ?_
      · rw [G.U, Nat.testBit_two_pow_sub_one]; exact decide_eq_true hx
      · have hok := List.all_eq_true.1 G.l f hf
        rw [Bool.and_eq_true, Bool.and_eq_true] at hok
        obtain ⟨⟨k1, k2⟩, k3⟩ := hok
        have hdv : g.1.d % f.1 = 0 := Nat.eq_of_beq_eq_true k3
        obtain ⟨n1, n2, n3⟩ := twin_col T hs hI (grps_mem g.1 hgm f hf)
        have t1 := turn_mod (sD := s * D) (i := i) (c := c) G.inv hdv
        have t2 := turn_mod (sD := I * D) (i := i) (c := c) G.inv hdv
        rw [← hji, ← eq1] at t1
        rw [← hji, ← ew1] at t2
        rw [← t1] at n1
        rw [← t2] at n2
        rw [← t1, ← t2] at n3
        have h9 := mask_bit k1 n1 n2 n3
        have hxe : (i + c * g.1.inv) % g.1.d % f.1 = (i + c * g.1.inv) % f.1 := Nat.mod_mod_of_dvd _ (Nat.dvd_of_mod_eq_zero hdv)
        refine ⟨h9.1, by rw [hxe]; exact h9.2, g.1.d / f.1, ?_, isRep_eq k2⟩
        have := Nat.div_add_mod g.1.d f.1
        omega
  obtain ⟨o, t, hot, h8⟩ := scan_spec hX h6 (i - a) hbit
  have hjo : j = c + 105 * (o + t) := by rw [← hot]; omega
  have hq := T.q
  have hw := T.w
  have hq2 := T.q2
  have hw2 := T.w2
  have hkq := T.kq
  have hkw := T.kw
  rw [eq1, Nat.add_comm] at hq hq2 hkq
  rw [ew1, Nat.add_comm] at hw hw2 hkw
  rw [hrD] at hkq hkw
  exact ck_spec h8 hjo hw hq hw2 hq2 hkw hkq
end Go.Proofs.YtpphfeinmmmckaaDoor
