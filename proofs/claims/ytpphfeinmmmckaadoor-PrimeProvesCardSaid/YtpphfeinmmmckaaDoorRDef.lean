/-
  Plain: what the reference's step computes is what the program's step computes.
-/
import Derived.Test.YtpphfeinmmmckaaDoorShownTrue
namespace Go.Proofs.YtpphfeinmmmckaaDoor

/-- What one prime of a step leaves of the number; nothing, if it is not right. -/
def rOne (ok : Nat → Bool) (G M N : Nat) (Q : List Nat) (E : List Int) (k left : Nat) : Option Nat :=
  if ok k = false then none else if E.getD k 0 < 1 then none else
  match divs (Q.getD k 0) (E.getD k 0).toNat left with
  | none => none
  | some l' => if notOne G M N (Q.getD k 0) = true then some l' else none

def rLoop (ok : Nat → Bool) (G M N : Nat) (Q : List Nat) (E : List Int) : Nat → Nat → Nat → Bool
  | 0, _, left => (left == 1) && (G ^ M % N == 1)
  | r + 1, k, left => match rOne ok G M N Q E k left with
    | none => false
    | some l' => rLoop ok G M N Q E r (k + 1) l'

theorem divs_big {q : Nat} (hq : 2 ≤ q) : ∀ {e left : Nat}, left < 2 ^ e → 1 ≤ left → divs q e left = none
  | 0, left, h, h1 => by rw [Nat.pow_zero] at h; omega
  | e + 1, left, h, h1 => by
    rw [divs]
    split
    · rename_i hm
      have h2 := Nat.div_add_mod left q
      rw [hm, Nat.add_zero] at h2
      have h3 : 2 * (left / q) ≤ left := by
        calc 2 * (left / q) ≤ q * (left / q) := Nat.mul_le_mul_right _ hq
          _ = left := h2
      have h4 : left / q ≠ 0 := by intro h0; rw [h0, Nat.mul_zero] at h2; omega
      rw [Nat.pow_succ] at h
      exact divs_big hq (by omega) (by omega)
    · rfl

theorem divs_le {q e left l' : Nat} (hl : 1 ≤ left) (h : divs q e left = some l') : 1 ≤ l' ∧ l' ≤ left := by
  have h1 := divs_spec h
  have h2 : l' ≠ 0 := by intro h0; rw [h0, Nat.mul_zero] at h1; omega
  have h3 : q ^ e ≠ 0 := by intro h0; rw [h0, Nat.zero_mul] at h1; omega
  refine ⟨by omega, ?_⟩
  calc l' = 1 * l' := (Nat.one_mul _).symm
    _ ≤ q ^ e * l' := Nat.mul_le_mul_right _ (by omega)
    _ = left := h1.symm

theorem rLoop_eq {ok : Nat → Bool} {G M N n : Nat} {Q : List Nat} {E : List Int} (hQ : Q.length = n) (hE : E.length = n) (hpos : ∀ k, k < n → ok k = true → 2 ≤ Q.getD k 0) :
    ∀ (r k left : Nat), r + k = n → 1 ≤ left → left < 2 ^ 64 →
      rLoop ok G M N Q E r k left = (((List.range n).drop k).all ok && (prodL (Q.drop k) (E.drop k) left && ((G ^ M % N == 1) && (Q.drop k).all (notOne G M N))))
  | 0, k, left, hk, _, _ => by
    have h1 : (List.range n).drop k = [] := List.drop_of_length_le (by rw [List.length_range]; omega)
    have h2 : Q.drop k = [] := List.drop_of_length_le (by omega)
    have h3 : E.drop k = [] := List.drop_of_length_le (by omega)
    rw [h1, h2, h3, rLoop, prodL]
    simp
  | r + 1, k, left, hk, hl, hlt => by
    have hkn : k < n := by omega
    rw [rLoop, range_drop hkn ok, prodL_step hQ hE hkn left, all_drop hQ hkn (notOne G M N), rOne]
    cases hok : ok k with
    | false => rfl
    | true =>
      have h2 := hpos k hkn hok
      rw [if_neg (by simp)]
      by_cases he : E.getD k 0 < 1
      · rw [if_pos he, if_pos (.inr (.inl he))]; simp
      rw [if_neg he]
      by_cases he2 : 63 < E.getD k 0
      · rw [if_pos (.inr (.inr he2))]
        have h3 : divs (Q.getD k 0) (E.getD k 0).toNat left = none :=
          divs_big h2 (Nat.lt_of_lt_of_le hlt (Nat.pow_le_pow_right (by omega) (by omega))) hl
        rw [h3]; simp
      rw [if_neg (by omega)]
      cases hd : divs (Q.getD k 0) (E.getD k 0).toNat left with
      | none => simp
      | some l' =>
        have h4 := divs_le hl hd
        cases hn : notOne G M N (Q.getD k 0) with
        | false => simp
        | true =>
          show rLoop ok G M N Q E r (k + 1) l' = _
          rw [rLoop_eq hQ hE hpos r (k + 1) l' (by omega) h4.1 (by omega)]
          simp

/-- What the reference's step answers at the i-th step. -/
def rstepF (l : List StepV) (i : Nat) (s : StepV) : Bool :=
  if s.N < 3 then false else if 9223372036854775808 ≤ s.N then false else if s.G < 1 then false else if s.N ≤ s.G then false
  else if s.Q.length ≠ s.E.length then false else rLoop (qOk l i s.Q) s.G (s.N - 1) s.N s.Q s.E s.E.length 0 (s.N - 1)

theorem qOk_two {l : List StepV} {i k : Nat} {Q : List Nat} (h : ∀ j, j < i → j < l.length → 2 ≤ (l.getD j default).N) (hq : qOk l i Q k = true) : 2 ≤ Q.getD k 0 := by
  rw [qOk, Bool.and_eq_true, shownF, Bool.or_eq_true] at hq
  rcases hq.1 with h5 | h5
  · obtain ⟨x, hx, hxN⟩ := List.any_eq_true.1 h5
    obtain ⟨j, hj, rfl⟩ := List.getElem_of_mem hx
    rw [List.length_take] at hj
    rw [List.getElem_take] at hxN
    have hjl : j < l.length := by omega
    have := h j (by omega) hjl
    have e2 : l.getD j default = l[j] := by simp [List.getD, hjl]
    rw [e2] at this
    rw [beq_iff_eq] at hxN
    omega
  · rw [beq_iff_eq] at h5; omega

theorem rstep_eq {l : List StepV} {i : Nat} {s : StepV} (h : ∀ j, j < i → j < l.length → 2 ≤ (l.getD j default).N) : rstepF l i s = stepOk l i s := by
  rw [rstepF, stepOk, headOk, headV]
  split
  · rfl
  split
  · rfl
  split
  · rfl
  split
  · rfl
  rename_i h1 h2 h3 h4
  by_cases h5 : s.Q.length = s.E.length
  · rw [if_neg (by omega), if_neg (by omega), ← h5, rLoop_eq rfl h5.symm (fun k _ hk => qOk_two h hk) s.Q.length 0 (s.N - 1) (by omega) (by omega) (by omega)]
    rw [List.drop_zero, List.drop_zero, List.drop_zero, ordF, Bool.and_comm]
  · rw [if_pos h5, if_pos (fun e => h5 e.symm)]; rfl
end Go.Proofs.YtpphfeinmmmckaaDoor
