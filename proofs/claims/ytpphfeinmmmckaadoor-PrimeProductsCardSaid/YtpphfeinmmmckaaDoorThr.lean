/-
  Plain: the fractions counted by the kernel: how great the exponent at a prime of n is at least.
-/
import Derived.Test.YtpphfeinmmmckaaDoorLevel
namespace Go.Proofs.YtpphfeinmmmckaaDoor
open Nt

/-- How many fractions have the factor p above the line. -/
noncomputable def upC (dv : Nat → Nat → Nat) (p : Nat) (g : Nat → Nat) (f : Nat) : Nat → Nat :=
  Nat.rec (motive := fun _ => Nat → Nat) (fun _ => 0) (fun _ ih A => Bool.rec (motive := fun _ => Nat) (force (dv p A) fun A' => Nat.add (g A') (ih A')) 0 (Nat.beq (dv p A) 0)) f
noncomputable def lg (dv : Nat → Nat → Nat) (f A : Nat) : Nat := upC dv 2 (fun _ => 1) f A
/-- How many fractions of 2 and the primes of l there are. -/
noncomputable def cnt (dv : Nat → Nat → Nat) (f : Nat) (l : List Nat) : Nat → Nat → Nat :=
  List.rec (motive := fun _ => Nat → Nat → Nat) (fun A B => Nat.succ (Nat.add (lg dv f A) (lg dv f B)))
    (fun p _ ih A B => Nat.add (ih A B) (Nat.add (upC dv p (fun A' => ih A' B) f A) (upC dv p (fun B' => ih A B') f B))) l

theorem upC_step {dv : Nat → Nat → Nat} {p : Nat} {g : Nat → Nat} {f A : Nat} : upC dv p g (f + 1) A = if dv p A = 0 then 0 else g (dv p A) + upC dv p g f (dv p A) := by
  show Bool.rec (motive := fun _ => Nat) (force (dv p A) fun A' => Nat.add (g A') (upC dv p g f A')) 0 (Nat.beq (dv p A) 0) = _
  rw [force_eq]
  by_cases h : dv p A = 0
  · rw [if_pos h, h]; rfl
  · have hb : Nat.beq (dv p A) 0 = false := by
      rcases hbb : Nat.beq (dv p A) 0 with _ | _
      · rfl
      · exact absurd (Nat.eq_of_beq_eq_true hbb) h
    rw [hb, if_neg h]
    rfl

theorem ups_length {dv : Nat → Nat → Nat} {p : Nat} {g : Nat → List (Nat × Nat)} {c : Nat → Nat} (hc : ∀ A, (g A).length = c A) : ∀ (f A : Nat), (ups dv p g f A).length = upC dv p c f A
  | 0, A => rfl
  | f + 1, A => by
    rw [upC_step, ups]
    by_cases h : dv p A = 0
    · rw [if_pos h, if_pos h]; rfl
    · rw [if_neg h, if_neg h, List.length_map, List.length_append, hc, ups_length hc f]
theorem downs_length {dv : Nat → Nat → Nat} {p : Nat} {g : Nat → List (Nat × Nat)} {c : Nat → Nat} (hc : ∀ A, (g A).length = c A) : ∀ (f A : Nat), (downs dv p g f A).length = upC dv p c f A
  | 0, A => rfl
  | f + 1, A => by
    rw [upC_step, downs]
    by_cases h : dv p A = 0
    · rw [if_pos h, if_pos h]; rfl
    · rw [if_neg h, if_neg h, List.length_map, List.length_append, hc, downs_length hc f]

theorem fracs_length (dv : Nat → Nat → Nat) (f : Nat) : ∀ (l : List Nat), ∀ A B, (fracs dv f (l ++ [2]) A B).length = cnt dv f l A B
  | [], A, B => by
    show ([(1, 1)] ++ (ups dv 2 (fun A' => [(1, 1)]) f A ++ downs dv 2 (fun B' => [(1, 1)]) f B)).length = Nat.succ (Nat.add (lg dv f A) (lg dv f B))
    rw [List.length_append, List.length_append, ups_length (c := fun _ => 1) (fun _ => rfl), downs_length (c := fun _ => 1) (fun _ => rfl)]
    show 1 + (lg dv f A + lg dv f B) = lg dv f A + lg dv f B + 1
    omega
  | p :: l, A, B => by
    have ih := fracs_length dv f l
    show (fracs dv f (l ++ [2]) A B ++ (ups dv p (fun A' => fracs dv f (l ++ [2]) A' B) f A ++ downs dv p (fun B' => fracs dv f (l ++ [2]) A B') f B)).length = _
    rw [List.length_append, List.length_append, ih, ups_length (c := fun A' => cnt dv f l A' B) (fun A' => ih A' B), downs_length (c := fun B' => cnt dv f l A B') (fun B' => ih A B')]
    rfl

def bigB : List Nat := [37, 31, 29, 23, 19, 17, 13, 11, 7, 5, 3]

/-- A row of the table: a bound W, a side X of the fractions, and twice their number. -/
noncomputable def thrOk (W X c : Nat) : Bool := Nat.ble (Nat.mul 2 (Nat.mul X X)) W && (Nat.ble 1 X && Nat.beq (Nat.mul 2 (cnt (fun p A => Nat.div A p) 40 bigB X X)) c)

theorem thr_le {W X c n s d p : Nat} (h : thrOk W X c = true) (H : Pass n s d) (hp : Prime p) (hp3 : 38 ≤ p) (hd : p ∣ n) (hk : W < p) : c ≤ Nat.gcd (p - 1) (n - 1) := by
  unfold thrOk at h
  rw [Bool.and_eq_true, Bool.and_eq_true] at h
  obtain ⟨h1, h2, h3⟩ := h
  have e1 : 2 * (X * X) ≤ W := Nat.le_of_ble_eq_true h1
  have e2 : 1 ≤ X := Nat.le_of_ble_eq_true h2
  have e3 : 2 * cnt (fun p A => A / p) 40 bigB X X = c := Nat.eq_of_beq_eq_true h3
  rw [← e3, ← fracs_length _ 40 bigB]
  exact rank_bound (by decide) (by decide) H hp hp3 hd (by omega) e2
end Go.Proofs.YtpphfeinmmmckaaDoor
