/-
  Plain: sieves by bit masks, as the kernel reckons them: a mask that repeats, masks laid over one another, the set bits asked one by one.
-/
import Derived.Test.YtpphfeinmmmckaaDoorLevel
namespace Go.Proofs.YtpphfeinmmmckaaDoor

/-- 1 + 2^d + 2^2d + .. : K summands. -/
def rep (d : Nat) : Nat → Nat
  | 0 => 0
  | K + 1 => rep d K + 2 ^ (d * K)

theorem rep_mul (d : Nat) : ∀ K, rep d K * (2 ^ d - 1) + 1 = 2 ^ (d * K)
  | 0 => by simp [rep]
  | K + 1 => by
    have ih := rep_mul d K
    have hp : 0 < 2 ^ d := Nat.two_pow_pos d
    obtain ⟨y, hy⟩ : ∃ y, 2 ^ d = y + 1 := ⟨2 ^ d - 1, by omega⟩
    rw [rep, Nat.mul_succ, Nat.pow_add, ← ih]
    rw [hy, Nat.add_sub_cancel]
    generalize rep d K = A
    rw [Nat.mul_add, Nat.mul_one, Nat.add_mul, Nat.add_mul, Nat.one_mul]
    omega

/-- A closed check that R is such a number. -/
def isRep (d K R : Nat) : Bool := Nat.ble 1 d && Nat.beq (Nat.succ (Nat.mul R (Nat.sub (Nat.pow 2 d) 1))) (Nat.pow 2 (Nat.mul d K))

theorem isRep_eq {d K R : Nat} (h : isRep d K R = true) : R = rep d K := by
  unfold isRep at h
  rw [Bool.and_eq_true] at h
  have h0 : 1 ≤ d := Nat.le_of_ble_eq_true h.1
  have h1 : R * (2 ^ d - 1) + 1 = 2 ^ (d * K) := Nat.eq_of_beq_eq_true h.2
  have h2 := rep_mul d K
  have h3 : 2 ^ 1 ≤ 2 ^ d := Nat.pow_le_pow_right (by omega) h0
  have h4 : R * (2 ^ d - 1) = rep d K * (2 ^ d - 1) := by omega
  exact Nat.eq_of_mul_eq_mul_right (by omega) h4

/-- By division. -/
def repD (d K : Nat) : Nat := Nat.div (Nat.sub (Nat.pow 2 (Nat.mul d K)) 1) (Nat.sub (Nat.pow 2 d) 1)
theorem repD_eq {d K : Nat} (hd : 1 ≤ d) : repD d K = rep d K := by
  have h := rep_mul d K
  have h1 : 2 ^ 1 ≤ 2 ^ d := Nat.pow_le_pow_right (by omega) hd
  show (2 ^ (d * K) - 1) / (2 ^ d - 1) = rep d K
  rw [← h, Nat.add_sub_cancel]
  exact Nat.mul_div_cancel _ (by omega)

theorem rep_lt {d m : Nat} (hm : m < 2 ^ d) : ∀ K, m * rep d K < 2 ^ (d * K)
  | 0 => by simp [rep]
  | K + 1 => by
    have ih := rep_lt hm K
    rw [rep, Nat.mul_add, Nat.mul_succ, Nat.pow_add]
    have h1 : m * 2 ^ (d * K) + 2 ^ (d * K) ≤ 2 ^ (d * K) * 2 ^ d := by
      rw [← Nat.succ_mul, Nat.mul_comm (2 ^ (d * K))]
      exact Nat.mul_le_mul_right _ hm
    omega

theorem rep_bit {d m : Nat} (hm : m < 2 ^ d) : ∀ (K x : Nat), x < d * K → (m * rep d K).testBit x = m.testBit (x % d)
  | 0, x, h => by simp at h
  | K + 1, x, h => by
    have hlt := rep_lt hm K
    have e : m * rep d (K + 1) = 2 ^ (d * K) * m + m * rep d K := by
      rw [rep, Nat.mul_add, Nat.mul_comm m (2 ^ (d * K))]; omega
    rw [e, Nat.testBit_two_pow_mul_add _ hlt]
    by_cases hx : x < d * K
    · rw [if_pos hx]; exact rep_bit hm K x hx
    · rw [if_neg hx]
      rw [Nat.mul_succ] at h
      have e2 : x % d = x - d * K := by
        have e3 : x = (x - d * K) + d * K := by omega
        rw [e3, Nat.add_mul_mod_self_left, Nat.mod_eq_of_lt (by omega)]
        omega
      rw [e2]

/-- Each set bit of X is asked. -/
noncomputable def peel (pos : Nat → Nat) (K : Nat → Bool) (n : Nat) : Nat → Bool :=
  Nat.rec (motive := fun _ => Nat → Bool) (fun X => Nat.beq X 0)
    (fun _ ih X => Bool.rec (motive := fun _ => Bool) (Bool.rec (motive := fun _ => Bool) false (ih (Nat.xor X (Nat.pow 2 (pos X)))) (K (pos X))) true (Nat.beq X 0)) n

theorem peel_spec {pos : Nat → Nat} {K : Nat → Bool} : ∀ {n X : Nat}, peel pos K n X = true → ∀ i, X.testBit i = true → K i = true
  | 0, X, h, i, hi => by
    have h1 : X = 0 := Nat.eq_of_beq_eq_true h
    rw [h1, Nat.zero_testBit] at hi
    cases hi
  | n + 1, X, h, i, hi => by
    have h' : Bool.rec (motive := fun _ => Bool) (Bool.rec (motive := fun _ => Bool) false (peel pos K n (Nat.xor X (Nat.pow 2 (pos X)))) (K (pos X))) true (Nat.beq X 0) = true := h
    cases hb : Nat.beq X 0 with
    | true =>
      have h1 : X = 0 := Nat.eq_of_beq_eq_true hb
      rw [h1, Nat.zero_testBit] at hi
      cases hi
    | false =>
      rw [hb] at h'
      cases hk : K (pos X) with
      | false => rw [hk] at h'; cases h'
      | true =>
        rw [hk] at h'
        by_cases he : i = pos X
        · rw [he]; exact hk
        · refine peel_spec (n := n) (X := Nat.xor X (Nat.pow 2 (pos X))) h' i ?_
          show (X ^^^ 2 ^ pos X).testBit i = true
          rw [Nat.testBit_xor, hi, Nat.testBit_two_pow]
          have : decide (pos X = i) = false := decide_eq_false (fun h => he h.symm)
          rw [this]
          rfl

/-- Masks, each laid over and over, all over one another. -/
noncomputable def grp (mk : Nat × Nat × Nat × Nat → Nat) (l : List (Nat × Nat × Nat × Nat)) : Nat → Nat :=
  List.rec (motive := fun _ => Nat → Nat) (fun a => a) (fun e _ ih a => ih (Nat.land a (Nat.mul (mk e) e.2.2.2))) l

theorem grp_spec {mk : Nat × Nat × Nat × Nat → Nat} {x : Nat} : ∀ {l : List (Nat × Nat × Nat × Nat)} {a : Nat}, a.testBit x = true →
    (∀ e ∈ l, mk e < 2 ^ e.1 ∧ (mk e).testBit (x % e.1) = true ∧ ∃ K, x < e.1 * K ∧ e.2.2.2 = rep e.1 K) → (grp mk l a).testBit x = true
  | [], a, h, _ => h
  | e :: l, a, h, hl => by
    show (grp mk l (Nat.land a (Nat.mul (mk e) e.2.2.2))).testBit x = true
    refine grp_spec ?_ fun f hf => hl f (List.mem_cons_of_mem _ hf)
    obtain ⟨h1, h2, K, h3, h4⟩ := hl e (by simp)
    show (a &&& mk e * e.2.2.2).testBit x = true
    rw [Nat.testBit_and, h, h4, rep_bit h1 K x h3, h2]
    rfl

theorem grp_lt {mk : Nat × Nat × Nat × Nat → Nat} {d : Nat} : ∀ {l : List (Nat × Nat × Nat × Nat)} {a : Nat}, a < 2 ^ d → grp mk l a < 2 ^ d
  | [], _, h => h
  | e :: l, a, h => by
    show grp mk l (Nat.land a (Nat.mul (mk e) e.2.2.2)) < 2 ^ d
    refine grp_lt (Nat.lt_of_le_of_lt ?_ h)
    exact Nat.and_le_left

/-- Words laid over one another. -/
noncomputable def inter (o c : Nat) (l : List (Nat → Nat → Nat)) : Nat → Nat :=
  List.rec (motive := fun _ => Nat → Nat) (fun a => a) (fun f _ ih a => ih (Nat.land a (f o c))) l

theorem inter_spec {o c t : Nat} : ∀ {l : List (Nat → Nat → Nat)} {a : Nat}, a.testBit t = true → (∀ f ∈ l, (f o c).testBit t = true) → (inter o c l a).testBit t = true
  | [], a, h, _ => h
  | f :: l, a, h, hl => by
    show (inter o c l (Nat.land a (f o c))).testBit t = true
    refine inter_spec ?_ fun f hf => hl f (List.mem_cons_of_mem _ hf)
    show (a &&& f o c).testBit t = true
    rw [Nat.testBit_and, h, hl f (by simp)]
    rfl

theorem inter_lt {o c n : Nat} : ∀ {l : List (Nat → Nat → Nat)} {a : Nat}, a < 2 ^ n → inter o c l a < 2 ^ n
  | [], _, h => h
  | f :: l, a, h => by
    show inter o c l (Nat.land a (f o c)) < 2 ^ n
    exact inter_lt (Nat.lt_of_le_of_lt Nat.and_le_left h)

/-- The words of w bits of X, n of them, each handed to f with its place. -/
noncomputable def chunk (f : Nat → Nat → Bool) (w n : Nat) : Nat → Nat → Bool :=
  Nat.rec (motive := fun _ => Nat → Nat → Bool) (fun _ _ => true)
    (fun _ ih X o => Bool.rec (motive := fun _ => Bool) (Bool.rec (motive := fun _ => Bool) false (ih (Nat.shiftRight X w) (Nat.add o w)) (f (Nat.mod X (Nat.pow 2 w)) o)) true (Nat.beq X 0)) n

theorem chunk_spec {f : Nat → Nat → Bool} {P : Nat → Prop} {w : Nat} (hf : ∀ X o, X < 2 ^ w → f X o = true → ∀ i, X.testBit i = true → P (o + i)) :
    ∀ {n X o : Nat}, X < 2 ^ (n * w) → chunk f w n X o = true → ∀ i, X.testBit i = true → P (o + i)
  | 0, X, o, hX, _, i, hi => by
    have : X = 0 := by rw [Nat.zero_mul] at hX; omega
    rw [this, Nat.zero_testBit] at hi
    cases hi
  | n + 1, X, o, hX, h, i, hi => by
    have h' : Bool.rec (motive := fun _ => Bool) (Bool.rec (motive := fun _ => Bool) false (chunk f w n (Nat.shiftRight X w) (Nat.add o w)) (f (Nat.mod X (Nat.pow 2 w)) o)) true (Nat.beq X 0) = true := h
    cases hb : Nat.beq X 0 with
    | true =>
      have h1 : X = 0 := Nat.eq_of_beq_eq_true hb
      rw [h1, Nat.zero_testBit] at hi
      cases hi
    | false =>
    rw [hb] at h'
    cases hp : f (Nat.mod X (Nat.pow 2 w)) o with
    | false => rw [hp] at h'; cases h'
    | true =>
      rw [hp] at h'
      have hp' : f (X % 2 ^ w) o = true := hp
      rcases Nat.lt_or_ge i w with h1 | h1
      · refine hf _ o (Nat.mod_lt _ (Nat.two_pow_pos w)) hp' i ?_
        rw [Nat.testBit_mod_two_pow, hi, decide_eq_true h1]; rfl
      · have h2 : chunk f w n (X >>> w) (o + w) = true := h'
        have h3 := chunk_spec hf ?_ h2 (i - w) ?_
        · rwa [show o + w + (i - w) = o + i by omega] at h3
        · rw [Nat.shiftRight_eq_div_pow]
          refine (Nat.div_lt_iff_lt_mul (Nat.two_pow_pos w)).2 ?_
          rw [← Nat.pow_add]
          rwa [Nat.succ_mul] at hX
        · rw [Nat.testBit_shiftRight, show w + (i - w) = i by omega]; exact hi

/-- Each set bit of X asked, by words of words: n of W bits, each of m of w bits. -/
noncomputable def scanW (pos : Nat → Nat) (K : Nat → Nat → Bool) (w m W n : Nat) : Nat → Nat → Bool :=
  chunk (fun X o => chunk (fun X o => peel pos (K o) 4097 X) w m X o) W n

theorem scanW_spec {pos : Nat → Nat} {K : Nat → Nat → Bool} {w m W n X o : Nat} (hW : W = m * w) (hX : X < 2 ^ (n * W)) (h : scanW pos K w m W n X o = true) : ∀ i, X.testBit i = true → ∃ a t, o + i = a + t ∧ K a t = true := by
  refine chunk_spec (P := fun i => ∃ a t, i = a + t ∧ K a t = true) ?_ hX h
  intro X o hX h
  rw [hW] at hX
  refine chunk_spec (P := fun i => ∃ a t, i = a + t ∧ K a t = true) ?_ hX h
  intro X o _ h i hi
  exact ⟨o, i, rfl, peel_spec h i hi⟩

noncomputable def scan (pos : Nat → Nat) (K : Nat → Nat → Bool) (n : Nat) : Nat → Nat → Bool := scanW pos K 2048 64 131072 n

theorem scan_spec {pos : Nat → Nat} {K : Nat → Nat → Bool} {n X o : Nat} (hX : X < 2 ^ (n * 131072)) (h : scan pos K n X o = true) : ∀ i, X.testBit i = true → ∃ a t, o + i = a + t ∧ K a t = true :=
  scanW_spec (by decide) hX h

/-- A pattern: what the mask m says, over and over. -/
def Pat (W d m E : Nat) : Prop := 0 < d ∧ ∀ x, x < W + d → m.testBit (x % d) = true → E.testBit x = true

/-- A pattern, turned, as a word. -/
def turned (E d inv : Nat) (o c : Nat) : Nat := Nat.shiftRight E (Nat.mod (Nat.add o (Nat.mul c inv)) d)

theorem turned_bit {W E d inv m o c t : Nat} (h : Pat W d m E) (ht : t < W) (hm : m.testBit ((o + t + c * inv) % d) = true) : (turned E d inv o c).testBit t = true := by
  show (E >>> ((o + c * inv) % d)).testBit t = true
  rw [Nat.testBit_shiftRight]
  have h5 : (o + c * inv) % d < d := Nat.mod_lt _ h.1
  refine h.2 _ (by omega) ?_
  rw [Nat.mod_add_mod]
  rwa [show o + c * inv + t = o + t + c * inv by omega]

/-- A pattern by repeating a mask. -/
theorem pat_rep {W d m R K : Nat} (hd : 0 < d) (hm : m < 2 ^ d) (hR : R = rep d K) (hK : W + d ≤ d * K) : Pat W d m (m * R) :=
  ⟨hd, fun x hx h => by rw [hR, rep_bit hm K x (by omega)]; exact h⟩

end Go.Proofs.YtpphfeinmmmckaaDoor
