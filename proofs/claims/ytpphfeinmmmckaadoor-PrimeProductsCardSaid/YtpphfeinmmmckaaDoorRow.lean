/-
  Plain: the check of all pairs of primes 1 + s r and 1 + I r for one odd I: all odd s below it, all r.
-/
import Derived.Test.YtpphfeinmmmckaaDoorTwo
import Derived.Test.YtpphfeinmmmckaaDoorThrT
namespace Go.Proofs.YtpphfeinmmmckaaDoor
open Nt

def least (a b : Nat) : Nat := Nat.sub a (Nat.sub a b)
theorem least_le (a b : Nat) : least a b ≤ a ∧ least a b ≤ b ∧ (least a b = a ∨ least a b = b) := by
  show a - (a - b) ≤ a ∧ a - (a - b) ≤ b ∧ (a - (a - b) = a ∨ a - (a - b) = b)
  omega

/-- The least r that a prime 1 + I r lets. -/
def rmin (I : Nat) : List ThrE → Nat
  | [] => 18446744073709551616
  | e :: l => bif Nat.blt (Nat.mul I e.c) e.V then least e.c (rmin I l) else rmin I l

theorem rmin_le {I : Nat} : ∀ {l : List ThrE} {e : ThrE}, e ∈ l → I * e.c < e.V → rmin I l ≤ e.c
  | [], e, he, _ => by simp at he
  | f :: l, e, he, h => by
    rw [rmin]
    rcases List.mem_cons.1 he with rfl | he
    · have hb : Nat.blt (Nat.mul I e.c) e.V = true := Nat.ble_eq_true_of_le h
      rw [hb, cond_true]
      exact (least_le _ _).1
    · have ih := rmin_le he h
      cases Nat.blt (Nat.mul I f.c) f.V with
      | true => rw [cond_true]; have := (least_le f.c (rmin I l)).2.1; omega
      | false => rw [cond_false]; exact ih

/-- For one s. -/
noncomputable def rowS (rs : List (Grp × Nat)) (I lo hI qm s : Nat) : Bool :=
  Bool.rec (motive := fun _ => Bool) true (force (least hI (Nat.div qm s)) fun hi => Bool.rec (motive := fun _ => Bool) (unit rs s I lo hi) true (Nat.blt hi lo)) (Nat.beq (Nat.gcd s I) 1)

/-- For all odd s below 2 n. -/
noncomputable def rowN (rs : List (Grp × Nat)) (I lo hI qm n : Nat) : Bool :=
  Nat.rec (motive := fun _ => Bool) true (fun t ih => Bool.rec (motive := fun _ => Bool) false ih (force (Nat.succ (Nat.mul 2 t)) (rowS rs I lo hI qm))) n

noncomputable def row (wm qm I : Nat) : Bool :=
  force (rmin I thrL) fun lo => force (Nat.div wm I) fun hI =>
    Bool.rec (motive := fun _ => Bool) (reps (Nat.sub (Nat.div hI 210) (Nat.div lo 210)) (fun rs => rowN rs I lo hI qm (Nat.div I 2)) grps []) true (Nat.blt hI lo)

theorem rowN_spec {rs : List (Grp × Nat)} {I lo hI qm : Nat} : ∀ {n : Nat}, rowN rs I lo hI qm n = true → ∀ t, t < n → rowS rs I lo hI qm (2 * t + 1) = true
  | 0, _, t, ht => absurd ht (Nat.not_lt_zero _)
  | n + 1, h, t, ht => by
    have h' : Bool.rec (motive := fun _ => Bool) false (rowN rs I lo hI qm n) (force (Nat.succ (Nat.mul 2 n)) (rowS rs I lo hI qm)) = true := h
    rw [force_eq] at h'
    cases hb : rowS rs I lo hI qm (Nat.succ (Nat.mul 2 n)) with
    | false => rw [hb] at h'; cases h'
    | true =>
      rw [hb] at h'
      rcases Nat.lt_succ_iff_lt_or_eq.1 ht with h1 | rfl
      · exact rowN_spec (n := n) h' t h1
      · exact hb

theorem blt_false {a b : Nat} (h : ¬ a < b) : Nat.blt a b = false := by
  rcases hb : Nat.blt a b with _ | _
  · rfl
  · exact absurd (Nat.le_of_ble_eq_true hb) h

theorem row_spec {wm qm I s r : Nat} (h : row wm qm I = true) (hs : s % 2 = 1) (hI : I % 2 = 1) (hsI : s < I) (hg : Nat.gcd s I = 1) (T : Twin s I r) (h1 : rmin I thrL ≤ r) (h2 : I * r ≤ wm) (h3 : s * r ≤ qm) : False := by
  have hIr : r ≤ wm / I := (Nat.le_div_iff_mul_le (by omega)).2 (by rw [Nat.mul_comm]; exact h2)
  have hsr : r ≤ qm / s := (Nat.le_div_iff_mul_le (by omega)).2 (by rw [Nat.mul_comm]; exact h3)
  unfold row at h
  rw [force_eq, force_eq] at h
  have hb : Nat.blt (Nat.div wm I) (rmin I thrL) = false := blt_false (by show ¬ wm / I < rmin I thrL; omega)
  rw [hb] at h
  have h' : reps (Nat.sub (Nat.div (Nat.div wm I) 210) (Nat.div (rmin I thrL) 210)) (fun rs => rowN rs I (rmin I thrL) (Nat.div wm I) qm (Nat.div I 2)) grps [] = true := h
  obtain ⟨rs, h4, h5⟩ := reps_spec h'
  have h6 := rowN_spec h4 (s / 2) (by show s / 2 < I / 2; omega)
  rw [show 2 * (s / 2) + 1 = s by omega] at h6
  unfold rowS at h6
  rw [force_eq, hg] at h6
  have h6' : Bool.rec (motive := fun _ => Bool) (unit rs s I (rmin I thrL) (least (Nat.div wm I) (Nat.div qm s))) true (Nat.blt (least (Nat.div wm I) (Nat.div qm s)) (rmin I thrL)) = true := h6
  have hle := least_le (Nat.div wm I) (Nat.div qm s)
  have hrl : r ≤ least (Nat.div wm I) (Nat.div qm s) := by
    rcases hle.2.2 with e | e
    · rw [e]; exact hIr
    · rw [e]; exact hsr
  have hb2 : Nat.blt (least (Nat.div wm I) (Nat.div qm s)) (rmin I thrL) = false := blt_false (by omega)
  rw [hb2] at h6'
  refine unit_spec (W := wm / I / 210 - rmin I thrL / 210) (fun e he => ?_) ?_ h6' hs hI T h1 hrl
  · rcases h5 e he with h7 | h7
    · simp at h7
    · exact h7
  · have : least (Nat.div wm I) (Nat.div qm s) / 210 ≤ wm / I / 210 := Nat.div_le_div_right hle.1
    omega
end Go.Proofs.YtpphfeinmmmckaaDoor
