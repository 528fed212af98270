/-
  Plain: rows beyond the first ones.
-/
import Derived.Test.YtpphfeinmmmckaaDoorMRow
/- ThrU: Plain: the table of least exponents, by program (thrgen.py); each row counted by the kernel. -/
namespace Go.Proofs.YtpphfeinmmmckaaDoor
set_option maxRecDepth 100000
theorem thu0 : thrOk 4294967296 46340 7635798 = true := by decide +kernel
theorem thu1 : thrOk 5107605667 50535 8260010 = true := by decide +kernel
theorem thu2 : thrOk 6074000999 55108 8926262 = true := by decide +kernel
theorem thu3 : thrOk 7223245205 60096 9597414 = true := by decide +kernel
theorem thu4 : thrOk 8589934592 65536 10353314 = true := by decide +kernel
theorem thu5 : thrOk 10215211334 71467 11159250 = true := by decide +kernel
theorem thu6 : thrOk 12148001999 77935 12034870 = true := by decide +kernel
theorem thu7 : thrOk 14446490411 84989 12988078 = true := by decide +kernel
theorem thu8 : thrOk 17179869184 92681 13999802 = true := by decide +kernel
theorem thu9 : thrOk 20430422668 101070 15052142 = true := by decide +kernel
theorem thu10 : thrOk 24296003999 110217 16221986 = true := by decide +kernel
theorem thu11 : thrOk 28892980822 120193 17467986 = true := by decide +kernel
theorem thu12 : thrOk 34359738368 131072 18841754 = true := by decide +kernel
theorem thu13 : thrOk 40860845336 142935 20250542 = true := by decide +kernel
theorem thu14 : thrOk 48592007999 155871 21731438 = true := by decide +kernel
theorem thu15 : thrOk 57785961645 169979 23345174 = true := by decide +kernel
theorem thu16 : thrOk 68719476736 185363 25156326 = true := by decide +kernel
theorem thu17 : thrOk 81721690673 202140 26977438 = true := by decide +kernel
theorem thu18 : thrOk 97184015999 220435 29043882 = true := by decide +kernel
theorem thu19 : thrOk 115571923290 240387 31053362 = true := by decide +kernel
theorem thu20 : thrOk 137438953472 262144 33392650 = true := by decide +kernel
theorem thu21 : thrOk 163443381347 285870 35786526 = true := by decide +kernel
theorem thu22 : thrOk 194368031998 311743 38367042 = true := by decide +kernel
theorem thu23 : thrOk 231143846581 339958 41142626 = true := by decide +kernel
def thuE0 : ThrE := ⟨4294967296, 7635798, 5107605667⟩
def thuE1 : ThrE := ⟨5107605667, 8260010, 6074000999⟩
def thuE2 : ThrE := ⟨6074000999, 8926262, 7223245205⟩
def thuE3 : ThrE := ⟨7223245205, 9597414, 8589934592⟩
def thuE4 : ThrE := ⟨8589934592, 10353314, 10215211334⟩
def thuE5 : ThrE := ⟨10215211334, 11159250, 12148001999⟩
def thuE6 : ThrE := ⟨12148001999, 12034870, 14446490411⟩
def thuE7 : ThrE := ⟨14446490411, 12988078, 17179869184⟩
def thuE8 : ThrE := ⟨17179869184, 13999802, 20430422668⟩
def thuE9 : ThrE := ⟨20430422668, 15052142, 24296003999⟩
def thuE10 : ThrE := ⟨24296003999, 16221986, 28892980822⟩
def thuE11 : ThrE := ⟨28892980822, 17467986, 34359738368⟩
def thuE12 : ThrE := ⟨34359738368, 18841754, 40860845336⟩
def thuE13 : ThrE := ⟨40860845336, 20250542, 48592007999⟩
def thuE14 : ThrE := ⟨48592007999, 21731438, 57785961645⟩
def thuE15 : ThrE := ⟨57785961645, 23345174, 68719476736⟩
def thuE16 : ThrE := ⟨68719476736, 25156326, 81721690673⟩
def thuE17 : ThrE := ⟨81721690673, 26977438, 97184015999⟩
def thuE18 : ThrE := ⟨97184015999, 29043882, 115571923290⟩
def thuE19 : ThrE := ⟨115571923290, 31053362, 137438953472⟩
def thuE20 : ThrE := ⟨137438953472, 33392650, 163443381347⟩
def thuE21 : ThrE := ⟨163443381347, 35786526, 194368031998⟩
def thuE22 : ThrE := ⟨194368031998, 38367042, 231143846581⟩
def thuE23 : ThrE := ⟨231143846581, 41142626, 274877906944⟩
def thuL : List ThrE := [thuE0, thuE1, thuE2, thuE3, thuE4, thuE5, thuE6, thuE7, thuE8, thuE9, thuE10, thuE11, thuE12, thuE13, thuE14, thuE15, thuE16, thuE17, thuE18, thuE19, thuE20, thuE21, thuE22, thuE23]
theorem thuL_ok : ∀ e ∈ thuL, ∃ X, thrOk e.W X e.c = true := by
  intro e he
  simp only [thuL, List.mem_cons, List.not_mem_nil, or_false] at he
  rcases he with rfl | rfl | rfl | rfl | rfl | rfl | rfl | rfl | rfl | rfl | rfl | rfl | rfl | rfl | rfl | rfl | rfl | rfl | rfl | rfl | rfl | rfl | rfl | rfl
  · exact ⟨_, thu0⟩
  · exact ⟨_, thu1⟩
  · exact ⟨_, thu2⟩
  · exact ⟨_, thu3⟩
  · exact ⟨_, thu4⟩
  · exact ⟨_, thu5⟩
  · exact ⟨_, thu6⟩
  · exact ⟨_, thu7⟩
  · exact ⟨_, thu8⟩
  · exact ⟨_, thu9⟩
  · exact ⟨_, thu10⟩
  · exact ⟨_, thu11⟩
  · exact ⟨_, thu12⟩
  · exact ⟨_, thu13⟩
  · exact ⟨_, thu14⟩
  · exact ⟨_, thu15⟩
  · exact ⟨_, thu16⟩
  · exact ⟨_, thu17⟩
  · exact ⟨_, thu18⟩
  · exact ⟨_, thu19⟩
  · exact ⟨_, thu20⟩
  · exact ⟨_, thu21⟩
  · exact ⟨_, thu22⟩
  · exact ⟨_, thu23⟩
theorem thuL_cov (w : Nat) (h1 : 4294967296 < w) (h2 : w < 274877906944) : ∃ e ∈ thuL, e.W < w ∧ w ≤ e.V := by
  by_cases h3 : w ≤ 5107605667
  · exact ⟨thuE0, by simp [thuL], by show 4294967296 < w; omega, h3⟩
  by_cases h4 : w ≤ 6074000999
  · exact ⟨thuE1, by simp [thuL], by show 5107605667 < w; omega, h4⟩
  by_cases h5 : w ≤ 7223245205
  · exact ⟨thuE2, by simp [thuL], by show 6074000999 < w; omega, h5⟩
  by_cases h6 : w ≤ 8589934592
  · exact ⟨thuE3, by simp [thuL], by show 7223245205 < w; omega, h6⟩
  by_cases h7 : w ≤ 10215211334
  · exact ⟨thuE4, by simp [thuL], by show 8589934592 < w; omega, h7⟩
  by_cases h8 : w ≤ 12148001999
  · exact ⟨thuE5, by simp [thuL], by show 10215211334 < w; omega, h8⟩
  by_cases h9 : w ≤ 14446490411
  · exact ⟨thuE6, by simp [thuL], by show 12148001999 < w; omega, h9⟩
  by_cases h10 : w ≤ 17179869184
  · exact ⟨thuE7, by simp [thuL], by show 14446490411 < w; omega, h10⟩
  by_cases h11 : w ≤ 20430422668
  · exact ⟨thuE8, by simp [thuL], by show 17179869184 < w; omega, h11⟩
  by_cases h12 : w ≤ 24296003999
  · exact ⟨thuE9, by simp [thuL], by show 20430422668 < w; omega, h12⟩
  by_cases h13 : w ≤ 28892980822
  · exact ⟨thuE10, by simp [thuL], by show 24296003999 < w; omega, h13⟩
  by_cases h14 : w ≤ 34359738368
  · exact ⟨thuE11, by simp [thuL], by show 28892980822 < w; omega, h14⟩
  by_cases h15 : w ≤ 40860845336
  · exact ⟨thuE12, by simp [thuL], by show 34359738368 < w; omega, h15⟩
  by_cases h16 : w ≤ 48592007999
  · exact ⟨thuE13, by simp [thuL], by show 40860845336 < w; omega, h16⟩
  by_cases h17 : w ≤ 57785961645
  · exact ⟨thuE14, by simp [thuL], by show 48592007999 < w; omega, h17⟩
  by_cases h18 : w ≤ 68719476736
  · exact ⟨thuE15, by simp [thuL], by show 57785961645 < w; omega, h18⟩
  by_cases h19 : w ≤ 81721690673
  · exact ⟨thuE16, by simp [thuL], by show 68719476736 < w; omega, h19⟩
  by_cases h20 : w ≤ 97184015999
  · exact ⟨thuE17, by simp [thuL], by show 81721690673 < w; omega, h20⟩
  by_cases h21 : w ≤ 115571923290
  · exact ⟨thuE18, by simp [thuL], by show 97184015999 < w; omega, h21⟩
  by_cases h22 : w ≤ 137438953472
  · exact ⟨thuE19, by simp [thuL], by show 115571923290 < w; omega, h22⟩
  by_cases h23 : w ≤ 163443381347
  · exact ⟨thuE20, by simp [thuL], by show 137438953472 < w; omega, h23⟩
  by_cases h24 : w ≤ 194368031998
  · exact ⟨thuE21, by simp [thuL], by show 163443381347 < w; omega, h24⟩
  by_cases h25 : w ≤ 231143846581
  · exact ⟨thuE22, by simp [thuL], by show 194368031998 < w; omega, h25⟩
  exact ⟨thuE23, by simp [thuL], by show 231143846581 < w; omega, by show w ≤ 274877906944; omega⟩
def thrM : List ThrE := thrL ++ thuL
theorem thrM_ok : ∀ e ∈ thrM, ∃ X, thrOk e.W X e.c = true := by
  intro e he
  rcases List.mem_append.1 he with h | h
  · exact thrL_ok e h
  · exact thuL_ok e h
theorem thrM_cov (w : Nat) (h1 : 65536 < w) (h2 : w < 274877906944) : ∃ e ∈ thrM, e.W < w ∧ w ≤ e.V := by
  rcases Nat.lt_or_ge w 4294967296 with h | h
  · obtain ⟨e, a, b⟩ := thrL_cov w h1 h
    exact ⟨e, List.mem_append_left _ a, b⟩
  · rcases Nat.lt_or_ge 4294967296 w with h3 | h3
    · obtain ⟨e, a, b⟩ := thuL_cov w h3 h2
      exact ⟨e, List.mem_append_right _ a, b⟩
    · have : w = 4294967296 := by omega
      subst this
      exact ⟨thrE63, List.mem_append_left _ (by simp [thrL]), by decide, by decide⟩
end Go.Proofs.YtpphfeinmmmckaaDoor

/- Two2: Plain: the sieve for two primes once more, each unit reckoned no longer than it is. -/
namespace Go.Proofs.YtpphfeinmmmckaaDoor
open Nt

theorem rep_split (d a : Nat) : ∀ b, rep d (a + b) = rep d a + 2 ^ (d * a) * rep d b
  | 0 => by simp [rep]
  | b + 1 => by
    rw [← Nat.add_assoc, rep, rep_split d a b, rep, Nat.mul_add (2 ^ (d * a)), ← Nat.pow_add, ← Nat.mul_add d a b, Nat.add_assoc]

theorem rep_mod {d a K : Nat} (hd : 1 ≤ d) (h : a ≤ K) : rep d K % 2 ^ (d * a) = rep d a := by
  obtain ⟨b, rfl⟩ : ∃ b, K = a + b := ⟨K - a, by omega⟩
  have h1 : 2 ^ 1 ≤ 2 ^ d := Nat.pow_le_pow_right (by omega) hd
  have h2 := rep_lt (d := d) (m := 1) (by omega) a
  rw [Nat.one_mul] at h2
  rw [rep_split, Nat.add_mul_mod_self_left, Nat.mod_eq_of_lt h2]

/-- The patterns of the groups, reckoned for n places, handed to k. -/
noncomputable def build2 (mk : Nat × Nat × Nat × Nat → Nat) (n : Nat) (k : List (Nat → Nat → Nat) → Bool) (l : List (Grp × Nat)) : List (Nat → Nat → Nat) → Bool :=
  List.rec (motive := fun _ => List (Nat → Nat → Nat) → Bool) k (fun g _ ih acc => force (Nat.mul (grp mk g.1.l g.1.U) (Nat.mod g.2 (Nat.pow 2 (Nat.mul g.1.d (Nat.add (Nat.div n g.1.d) 2))))) fun E => ih (turned E g.1.d g.1.inv :: acc)) l

theorem build2_spec {mk : Nat × Nat × Nat × Nat → Nat} {n : Nat} {k : List (Nat → Nat → Nat) → Bool} : ∀ {l : List (Grp × Nat)} {acc : List (Nat → Nat → Nat)}, build2 mk n k l acc = true →
    ∃ r, k r = true ∧ ∀ e ∈ r, e ∈ acc ∨ ∃ g ∈ l, e = turned (grp mk g.1.l g.1.U * (g.2 % 2 ^ (g.1.d * (n / g.1.d + 2)))) g.1.d g.1.inv
  | [], acc, h => ⟨acc, h, fun _ he => .inl he⟩
  | g :: l, acc, h => by
    have h' : (force (Nat.mul (grp mk g.1.l g.1.U) (Nat.mod g.2 (Nat.pow 2 (Nat.mul g.1.d (Nat.add (Nat.div n g.1.d) 2))))) fun E => build2 mk n k l (turned E g.1.d g.1.inv :: acc)) = true := h
    rw [force_eq] at h'
    obtain ⟨r, h1, h2⟩ := build2_spec h'
    refine ⟨r, h1, fun e he => ?_⟩
    rcases h2 e he with h3 | ⟨g', hg', h3⟩
    · rcases List.mem_cons.1 h3 with h4 | h4
      · exact .inr ⟨g, by simp, h4⟩
      · exact .inl h4
    · exact .inr ⟨g', by simp [hg'], h3⟩

/-- What the truncated number is. -/
theorem cut_rep {g : Grp} {R W n : Nat} (hd : 1 ≤ g.d) (hR : R = repD g.d (W / g.d + 2)) : R % 2 ^ (g.d * (n / g.d + 2)) = rep g.d (n / g.d + 2) ∨ R % 2 ^ (g.d * (n / g.d + 2)) = rep g.d (W / g.d + 2) := by
  rw [hR, repD_eq hd]
  rcases Nat.lt_or_ge (W / g.d + 2) (n / g.d + 2) with h | h
  · right
    have h1 : 2 ^ 1 ≤ 2 ^ g.d := Nat.pow_le_pow_right (by omega) hd
    have h2 := rep_lt (d := g.d) (m := 1) (by omega) (W / g.d + 2)
    rw [Nat.one_mul] at h2
    refine Nat.mod_eq_of_lt (Nat.lt_of_lt_of_le h2 ?_)
    exact Nat.pow_le_pow_right (by omega) (Nat.mul_le_mul_left _ (by omega))
  · left
    exact rep_mod hd h
/-- No two such primes with r from lo to hi. -/
noncomputable def unit2 (rs : List (Grp × Nat)) (s I lo hi : Nat) : Bool :=
  force (dOf s I) fun D => force (Nat.mul s D) fun sD => force (Nat.mul I D) fun iD => force (Nat.mul 105 sD) fun s' => force (Nat.mul 105 iD) fun i' =>
  force (Nat.div lo (Nat.mul 105 D)) fun a => force (Nat.succ (Nat.sub (Nat.div hi (Nat.mul 105 D)) a)) fun n =>
   build2 (mkB s' i') n (fun l => peel pos (fun c => force c fun c => scan pos (ck sD iD s' i' D c) (Nat.succ (Nat.div n 131072)) (inter a c l (Nat.sub (Nat.pow 2 n) 1)) a) 106 (grp (mkB sD iD) grpL0 grpU0)) rs []

theorem unit2_spec {rs : List (Grp × Nat)} {W s I lo hi r : Nat} (hrs : ∀ e ∈ rs, e.1 ∈ grps ∧ e.2 = repD e.1.d (W / e.1.d + 2)) (hW : hi / 210 ≤ lo / 210 + W) (h : unit2 rs s I lo hi = true)
    (hs : s % 2 = 1) (hI : I % 2 = 1) (T : Twin s I r) (h1 : lo ≤ r) (h2 : r ≤ hi) : False := by
  unfold unit2 at h
  simp only [force_eq] at h
  obtain ⟨D, hD⟩ : ∃ D, D = dOf s I := ⟨_, rfl⟩
  have hD24 : D = 2 ∨ D = 4 := by
    rw [hD]; unfold dOf
    cases Nat.beq (Nat.mod s 4) (Nat.mod I 4) with
    | true => exact .inl rfl
    | false => exact .inr rfl
  obtain ⟨hrD, hD0⟩ := twin_D T hs hI
  rw [← hD] at h hrD hD0
  obtain ⟨j, hj⟩ : ∃ j, j = r / D := ⟨_, rfl⟩
  rw [← hj] at hrD
  obtain ⟨c, hc⟩ : ∃ c, c = j % 105 := ⟨_, rfl⟩
  obtain ⟨i, hi'⟩ : ∃ i, i = j / 105 := ⟨_, rfl⟩
  have hji : j = c + 105 * i := by omega
  have eq1 : s * r = s * D * j := by rw [Nat.mul_assoc, ← hrD]
  have ew1 : I * r = I * D * j := by rw [Nat.mul_assoc, ← hrD]
  obtain ⟨rr, h3, h4⟩ := build2_spec h
  have hcb : (grp (mkB (Nat.mul s D) (Nat.mul I D)) grpL0 grpU0).testBit c = true := by
    refine grp_spec ?_ fun e he => ?_
    · rw [grpU0_eq, Nat.testBit_two_pow_sub_one]; exact decide_eq_true (by omega)
    · have hok := List.all_eq_true.1 grpL0_ok e he
      rw [Bool.and_eq_true, Bool.and_eq_true] at hok
      obtain ⟨⟨k1, k2⟩, k3⟩ := hok
      have hdv : 105 % e.1 = 0 := Nat.eq_of_beq_eq_true k3
      obtain ⟨n1, n2, n3⟩ := twin_col T hs hI (.inl (grp0_mem e he))
      rw [eq1] at n1 n3
      rw [ew1] at n2 n3
      have h5 := mask_bit k1 n1 n2 n3
      have hce : c % e.1 = j % e.1 := by rw [hc]; exact Nat.mod_mod_of_dvd j (Nat.dvd_of_mod_eq_zero hdv)
      refine ⟨h5.1, by rw [hce]; exact h5.2, 105 / e.1, ?_, isRep_eq k2⟩
      have := Nat.div_add_mod 105 e.1
      omega
  have h5 := peel_spec h3 c hcb
  obtain ⟨a, ha⟩ : ∃ a, a = lo / (105 * D) := ⟨_, rfl⟩
  obtain ⟨n, hn⟩ : ∃ n, n = hi / (105 * D) - a + 1 := ⟨_, rfl⟩
  have en : Nat.succ (Nat.sub (Nat.div hi (Nat.mul 105 D)) (Nat.div lo (Nat.mul 105 D))) = n := by rw [hn, ha]; rfl
  have ea : Nat.div lo (Nat.mul 105 D) = a := ha.symm
  rw [en, ea] at h5
  rw [en] at h4
  have h6 : scan pos (ck (s * D) (I * D) (105 * (s * D)) (105 * (I * D)) D c) (n / 131072 + 1) (inter a c rr (2 ^ n - 1)) a = true := h5
  have hdiv : i = r / (105 * D) := by rw [hi', hj, Nat.div_div_eq_div_mul, Nat.mul_comm D]
  have hlo : a ≤ i := by rw [ha, hdiv]; exact Nat.div_le_div_right h1
  have hhi : i ≤ hi / (105 * D) := by rw [hdiv]; exact Nat.div_le_div_right h2
  have hnW : n ≤ W + 1 := by
    rw [hn, ha]
    rcases hD24 with e | e
    · rw [e]; omega
    · rw [e]; omega
  have hX : inter a c rr (2 ^ n - 1) < 2 ^ ((n / 131072 + 1) * 131072) := by
    have h7 : inter a c rr (2 ^ n - 1) < 2 ^ n := inter_lt (by have := Nat.two_pow_pos n; omega)
    have h8 : 2 ^ n ≤ 2 ^ ((n / 131072 + 1) * 131072) := Nat.pow_le_pow_right (by omega) (by omega)
    omega
  have hbit : (inter a c rr (2 ^ n - 1)).testBit (i - a) = true := by
    refine inter_spec ?_ fun f hf => ?_
    · rw [Nat.testBit_two_pow_sub_one]; exact decide_eq_true (by omega)
    rcases h4 f hf with h8 | ⟨g, hg, h8⟩
    · simp at h8
    · obtain ⟨hgm, hgR⟩ := hrs g hg
      have G := grps_ok g.1 hgm
      have hm : grp (mkB (Nat.mul 105 (Nat.mul s D)) (Nat.mul 105 (Nat.mul I D))) g.1.l g.1.U < 2 ^ g.1.d := by
        refine grp_lt ?_
        rw [G.U]
        have := Nat.two_pow_pos g.1.d
        omega
      obtain ⟨m, hmm⟩ : ∃ m, m = grp (mkB (Nat.mul 105 (Nat.mul s D)) (Nat.mul 105 (Nat.mul I D))) g.1.l g.1.U := ⟨_, rfl⟩
      have hP : Pat n g.1.d m (m * (g.2 % 2 ^ (g.1.d * (n / g.1.d + 2)))) := by
        have h9 := Nat.div_add_mod W g.1.d
        have h10 := Nat.mod_lt W G.d0
        have h11 := Nat.div_add_mod n g.1.d
        have h12 := Nat.mod_lt n G.d0
        rcases cut_rep (n := n) G.d0 hgR with h13 | h13
        · refine pat_rep G.d0 (by rw [hmm]; exact hm) h13 ?_
          rw [Nat.mul_add]
          omega
        · refine pat_rep G.d0 (by rw [hmm]; exact hm) h13 ?_
          rw [Nat.mul_add]
          omega
      rw [hmm] at hP
      rw [h8]
      refine turned_bit hP (by omega) ?_
      rw [show a + (i - a) = i by omega]
      show (grp (mkB (105 * (s * D)) (105 * (I * D))) g.1.l g.1.U).testBit ((i + c * g.1.inv) % g.1.d) = true
      have hx : (i + c * g.1.inv) % g.1.d < g.1.d := Nat.mod_lt _ G.d0
      refine grp_spec ?_ fun f hf => ?_
      · rw [G.U, Nat.testBit_two_pow_sub_one]; exact decide_eq_true hx
      · have hok := List.all_eq_true.1 G.l f hf
        rw [Bool.and_eq_true, Bool.and_eq_true] at hok
        obtain ⟨⟨k1, k2⟩, k3⟩ := hok
        have hdv : g.1.d % f.1 = 0 := Nat.eq_of_beq_eq_true k3
        obtain ⟨n1, n2, n3⟩ := twin_col T hs hI (grps_mem g.1 hgm f hf)
        have t1 := turn_mod (sD := s * D) (i := i) (c := c) G.inv hdv
        have t2 := turn_mod (sD := I * D) (i := i) (c := c) G.inv hdv
        rw [← hji, ← eq1] at t1
        rw [← hji, ← ew1] at t2
        rw [← t1] at n1
        rw [← t2] at n2
        rw [← t1, ← t2] at n3
        have h9 := mask_bit k1 n1 n2 n3
        have hxe : (i + c * g.1.inv) % g.1.d % f.1 = (i + c * g.1.inv) % f.1 := Nat.mod_mod_of_dvd _ (Nat.dvd_of_mod_eq_zero hdv)
        refine ⟨h9.1, by rw [hxe]; exact h9.2, g.1.d / f.1, ?_, isRep_eq k2⟩
        have := Nat.div_add_mod g.1.d f.1
        omega
  obtain ⟨o, t, hot, h8⟩ := scan_spec hX h6 (i - a) hbit
  have hjo : j = c + 105 * (o + t) := by rw [← hot]; omega
  have hq := T.q
  have hw := T.w
  have hq2 := T.q2
  have hw2 := T.w2
  have hkq := T.kq
  have hkw := T.kw
  rw [eq1, Nat.add_comm] at hq hq2 hkq
  rw [ew1, Nat.add_comm] at hw hw2 hkw
  rw [hrD] at hkq hkw
  exact ck_spec h8 hjo hw hq hw2 hq2 hkw hkq
end Go.Proofs.YtpphfeinmmmckaaDoor

/- Row2: Plain: two primes 1 + s r and 1 + I r beyond the reach of the first rows: all r with s I r r below 2^63. -/
namespace Go.Proofs.YtpphfeinmmmckaaDoor
open Nt

/-- A number whose square is greater than x (that is checked where it is used). -/
noncomputable def rootN (x : Nat) : Nat :=
  Nat.rec (motive := fun _ => Nat → Nat) (fun y => Nat.succ y) (fun _ ih y => ih (Nat.div (Nat.add y (Nat.div x y)) 2)) 40 4294967296

/-- For one s: r from the end of the first rows on. -/
noncomputable def rowS2 (rs : List (Grp × Nat)) (I lo hi0 s : Nat) : Bool :=
  Bool.rec (motive := fun _ => Bool) true
    (force (rootN (Nat.div 9223372036854775808 (Nat.mul s I))) fun h =>
      Nat.ble 9223372036854775808 (Nat.mul (Nat.mul s I) (Nat.mul h h)) &&
      (force (least hi0 h) fun hi => force (Nat.add lo (Nat.sub (least (Nat.div 4294967296 I) (Nat.div 2147483648 s)) lo)) fun lo' =>
        Bool.rec (motive := fun _ => Bool) (unit2 rs s I lo' hi) true (Nat.blt hi lo')))
    (Nat.beq (Nat.gcd s I) 1)

noncomputable def rowN2 (rs : List (Grp × Nat)) (I lo hi0 n : Nat) : Bool :=
  Nat.rec (motive := fun _ => Bool) true (fun t ih => Bool.rec (motive := fun _ => Bool) false ih (force (Nat.succ (Nat.mul 2 t)) (rowS2 rs I lo hi0))) n

/-- For one I: all s that leave room for r. -/
noncomputable def row2 (I : Nat) : Bool :=
  force (rmin I thrM) fun lo => force (rootN (Nat.div 9223372036854775808 I)) fun hi =>
    Nat.ble 9223372036854775808 (Nat.mul I (Nat.mul hi hi)) &&
    Bool.rec (motive := fun _ => Bool) (reps (Nat.succ (Nat.sub (Nat.div hi 210) (Nat.div lo 210))) (fun rs => rowN2 rs I lo hi (Nat.succ (Nat.div (least I (Nat.div 9223372036854775808 (Nat.mul I (Nat.mul lo lo)))) 2))) grps []) true (Nat.blt hi lo)

theorem rowN2_spec {rs : List (Grp × Nat)} {I lo hi0 : Nat} : ∀ {n : Nat}, rowN2 rs I lo hi0 n = true → ∀ t, t < n → rowS2 rs I lo hi0 (2 * t + 1) = true
  | 0, _, t, ht => absurd ht (Nat.not_lt_zero _)
  | n + 1, h, t, ht => by
    have h' : Bool.rec (motive := fun _ => Bool) false (rowN2 rs I lo hi0 n) (force (Nat.succ (Nat.mul 2 n)) (rowS2 rs I lo hi0)) = true := h
    rw [force_eq] at h'
    cases hb : rowS2 rs I lo hi0 (Nat.succ (Nat.mul 2 n)) with
    | false => rw [hb] at h'; cases h'
    | true =>
      rw [hb] at h'
      rcases Nat.lt_succ_iff_lt_or_eq.1 ht with h1 | rfl
      · exact rowN2_spec (n := n) h' t h1
      · exact hb

theorem root_lt {x r h : Nat} (hc : 9223372036854775808 ≤ x * (h * h)) (hr : x * (r * r) < 9223372036854775808) : r < h := by
  rcases Nat.lt_or_ge r h with h1 | h1
  · exact h1
  · exfalso
    have : x * (h * h) ≤ x * (r * r) := Nat.mul_le_mul_left _ (Nat.mul_le_mul h1 h1)
    omega

theorem row2_spec {I s r : Nat} (h : row2 I = true) (hs : s % 2 = 1) (hI : I % 2 = 1) (hsI : s < I) (hg : Nat.gcd s I = 1) (T : Twin s I r) (h1 : rmin I thrM ≤ r) (h2 : s * I * (r * r) < 9223372036854775808)
    (h3 : 4294967296 ≤ I * r ∨ 2147483648 ≤ s * r) : False := by
  unfold row2 at h
  rw [force_eq, force_eq, Bool.and_eq_true] at h
  obtain ⟨lo, hlo⟩ : ∃ lo, lo = rmin I thrM := ⟨_, rfl⟩
  obtain ⟨hi, hhi⟩ : ∃ hi, hi = rootN (Nat.div 9223372036854775808 I) := ⟨_, rfl⟩
  rw [← hlo, ← hhi] at h
  rw [← hlo] at h1
  obtain ⟨c1, h4⟩ := h
  have c1' : 9223372036854775808 ≤ I * (hi * hi) := Nat.le_of_ble_eq_true c1
  have hs0 : 1 ≤ s := by omega
  have hIr : I * (r * r) < 9223372036854775808 := by
    have : 1 * (I * (r * r)) ≤ s * (I * (r * r)) := Nat.mul_le_mul_right _ hs0
    rw [Nat.one_mul, ← Nat.mul_assoc s] at this
    omega
  have hrhi := root_lt c1' hIr
  rw [blt_false (show ¬ hi < lo by omega)] at h4
  have h4' : reps (Nat.succ (Nat.sub (Nat.div hi 210) (Nat.div lo 210))) (fun rs => rowN2 rs I lo hi (Nat.succ (Nat.div (least I (Nat.div 9223372036854775808 (Nat.mul I (Nat.mul lo lo)))) 2))) grps [] = true := h4
  obtain ⟨rs, h5, h6⟩ := reps_spec h4'
  have hsm : s ≤ least I (Nat.div 9223372036854775808 (Nat.mul I (Nat.mul lo lo))) := by
    have hle := (least_le I (Nat.div 9223372036854775808 (Nat.mul I (Nat.mul lo lo)))).2.2
    rcases hle with h7 | h7
    · rw [h7]; omega
    · rw [h7]
      show s ≤ 9223372036854775808 / (I * (lo * lo))
      rcases Nat.eq_zero_or_pos lo with h0 | h0
      · exfalso
        have k1 : Nat.div 9223372036854775808 (Nat.mul I (Nat.mul lo lo)) = 0 := by
          rw [h0]; show 9223372036854775808 / (I * (0 * 0)) = 0; simp
        have k2 := (least_le I (Nat.div 9223372036854775808 (Nat.mul I (Nat.mul lo lo))))
        rw [k1] at k2 h7
        rw [h0] at hlo
        have : ∀ l : List ThrE, (∀ e ∈ l, 1 ≤ e.c) → 1 ≤ rmin I l := by
          intro l
          induction l with
          | nil => intro _; show 1 ≤ 18446744073709551616; decide
          | cons e l ih =>
            intro hl
            have i1 := ih fun f hf => hl f (List.mem_cons_of_mem _ hf)
            have i2 := hl e (by simp)
            rw [rmin]
            cases Nat.blt (Nat.mul I e.c) e.V with
            | true =>
              rw [cond_true]
              rcases (least_le e.c (rmin I l)).2.2 with i3 | i3
              · rw [i3]; exact i2
              · rw [i3]; exact i1
            | false => exact i1
        have := this thrM (by decide +kernel)
        omega
      · rw [Nat.le_div_iff_mul_le (Nat.mul_pos (by omega) (Nat.mul_pos h0 h0)), ← Nat.mul_assoc]
        have : s * I * (lo * lo) ≤ s * I * (r * r) := Nat.mul_le_mul_left _ (Nat.mul_le_mul h1 h1)
        omega
  have h7 := rowN2_spec h5 (s / 2) (by
    show s / 2 < least I (Nat.div 9223372036854775808 (Nat.mul I (Nat.mul lo lo))) / 2 + 1
    have := Nat.div_le_div_right (c := 2) hsm
    omega)
  rw [show 2 * (s / 2) + 1 = s by omega] at h7
  unfold rowS2 at h7
  rw [hg] at h7
  have h8 : (force (rootN (Nat.div 9223372036854775808 (Nat.mul s I))) fun h =>
      Nat.ble 9223372036854775808 (Nat.mul (Nat.mul s I) (Nat.mul h h)) &&
      (force (least hi h) fun hi => force (Nat.add lo (Nat.sub (least (Nat.div 4294967296 I) (Nat.div 2147483648 s)) lo)) fun lo' =>
        Bool.rec (motive := fun _ => Bool) (unit2 rs s I lo' hi) true (Nat.blt hi lo'))) = true := h7
  rw [force_eq, force_eq, force_eq, Bool.and_eq_true] at h8
  obtain ⟨c2, h9⟩ := h8
  obtain ⟨h', hh'⟩ : ∃ h', h' = rootN (Nat.div 9223372036854775808 (Nat.mul s I)) := ⟨_, rfl⟩
  rw [← hh'] at c2 h9
  have c2' : 9223372036854775808 ≤ s * I * (h' * h') := Nat.le_of_ble_eq_true c2
  have hr2 := root_lt c2' h2
  obtain ⟨hi2, hhi2⟩ : ∃ hi2, hi2 = least hi h' := ⟨_, rfl⟩
  rw [← hhi2] at h9
  have hle2 := least_le hi h'
  rw [← hhi2] at hle2
  have hri2 : r < hi2 := by omega
  obtain ⟨lo2, hlo2⟩ : ∃ lo2, lo2 = Nat.add lo (Nat.sub (least (Nat.div 4294967296 I) (Nat.div 2147483648 s)) lo) := ⟨_, rfl⟩
  rw [← hlo2] at h9
  have hlo2r : lo2 ≤ r := by
    have hl2 : least (Nat.div 4294967296 I) (Nat.div 2147483648 s) ≤ r := by
      have hle := least_le (Nat.div 4294967296 I) (Nat.div 2147483648 s)
      rcases h3 with h3 | h3
      · refine Nat.le_trans hle.1 ?_
        show 4294967296 / I ≤ r
        have h10 : 4294967296 / I ≤ I * r / I := Nat.div_le_div_right h3
        rwa [Nat.mul_div_cancel_left _ (by omega)] at h10
      · refine Nat.le_trans hle.2.1 ?_
        show 2147483648 / s ≤ r
        have h10 : 2147483648 / s ≤ s * r / s := Nat.div_le_div_right h3
        rwa [Nat.mul_div_cancel_left _ (by omega)] at h10
    rw [hlo2]
    show lo + (least (Nat.div 4294967296 I) (Nat.div 2147483648 s) - lo) ≤ r
    omega
  rw [blt_false (show ¬ hi2 < lo2 by omega)] at h9
  have h9' : unit2 rs s I lo2 hi2 = true := h9
  have hle12 : lo ≤ lo2 := by rw [hlo2]; exact Nat.le_add_right _ _
  refine unit2_spec (W := hi / 210 - lo / 210 + 1) (fun e he => ?_) ?_ h9' hs hI T hlo2r (by omega)
  · rcases h6 e he with h12 | h12
    · simp at h12
    · exact h12
  · have k1 : hi2 / 210 ≤ hi / 210 := Nat.div_le_div_right hle2.1
    have k2 : lo / 210 ≤ lo2 / 210 := Nat.div_le_div_right hle12
    omega
end Go.Proofs.YtpphfeinmmmckaaDoor

/- Rows2: Plain: many rows beyond the first ones at once. -/
namespace Go.Proofs.YtpphfeinmmmckaaDoor
open Nt

/-- The rows of I = a, a + 2, .. : n of them. -/
noncomputable def rows2 (a n : Nat) : Bool := allFrom (fun t => force (Nat.add a (Nat.mul 2 t)) row2) 0 n

theorem rows2_spec {a n I : Nat} (h : rows2 a n = true) (h1 : a ≤ I) (h2 : I < a + 2 * n) (h3 : (I - a) % 2 = 0) : row2 I = true := by
  unfold rows2 at h
  have h4 := allFrom_spec h ((I - a) / 2) (by omega)
  rw [Nat.zero_add, force_eq] at h4
  have e : Nat.add a (Nat.mul 2 ((I - a) / 2)) = I := by
    show a + 2 * ((I - a) / 2) = I
    omega
  rw [e] at h4
  exact h4
end Go.Proofs.YtpphfeinmmmckaaDoor
