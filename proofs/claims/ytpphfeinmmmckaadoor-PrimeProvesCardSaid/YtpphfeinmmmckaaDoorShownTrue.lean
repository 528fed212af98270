/-
  Plain: what a paper shows is a prime.
-/
import Derived.Test.YtpphfeinmmmckaaDoorHolds
import Derived.Test.YtpphfeinmmmckaaDoorLucas
namespace Go.Proofs.YtpphfeinmmmckaaDoor
open Nt

theorem divs_spec {q : Nat} : ∀ {e left l' : Nat}, divs q e left = some l' → left = q ^ e * l'
  | 0, left, l', h => by simp only [divs, Option.some.injEq] at h; rw [h, Nat.pow_zero, Nat.one_mul]
  | e + 1, left, l', h => by
    rw [divs] at h
    split at h
    · rename_i hm
      have := divs_spec h
      have h2 := Nat.div_add_mod left q
      rw [hm, Nat.add_zero, this] at h2
      rw [← h2, Nat.pow_succ, ← Nat.mul_assoc, Nat.mul_comm q]
    · simp at h

theorem prodL_primes : ∀ (Q : List Nat) (E : List Int) (left : Nat), prodL Q E left = true → (∀ q ∈ Q, Prime q) → ∀ r, Prime r → r ∣ left → r ∈ Q
  | [], _, left, h, _ => fun r hr hd => by
    have : left = 1 := by simpa [prodL] using h
    subst this
    have := Nat.le_of_dvd (by omega) hd; have := hr.1; omega
  | q :: Q, [], left, h, _ => by simp [prodL] at h
  | q :: Q, e :: E, left, h, hp => by
    rw [prodL] at h
    split at h
    · simp at h
    · split at h
      · simp at h
      · rename_i l' hd
        intro r hr hdv
        rw [divs_spec hd] at hdv
        rcases euclid hr hdv with h1 | h1
        · have := dvd_pow hr h1
          have hq := hp q (by simp)
          rcases hq.2 r this with h2 | h2
          · have := hr.1; omega
          · simp [h2]
        · exact List.mem_cons_of_mem _ (prodL_primes Q E l' h (fun x hx => hp x (List.mem_cons_of_mem _ hx)) r hr h1)

theorem headOk_true {s : StepV} (h : headOk s = true) : 3 ≤ s.N ∧ s.N < 9223372036854775808 ∧ 1 ≤ s.G ∧ s.G < s.N ∧ s.E.length = s.Q.length ∧ prodL s.Q s.E (s.N - 1) = true ∧ ordF s.G (s.N - 1) s.N s.Q = true := by
  rw [headOk, headV] at h
  split at h
  · simp at h
  split at h
  · simp at h
  split at h
  · simp at h
  split at h
  · simp at h
  split at h
  · simp at h
  rename_i h1 h2 h3 h4 h5
  rw [Bool.and_eq_true] at h
  exact ⟨by omega, by omega, by omega, by omega, by omega, h.1, h.2⟩

theorem prime_two : Prime 2 := by
  refine ⟨by omega, fun d hd => ?_⟩
  have := Nat.le_of_dvd (by omega) hd
  have h0 : d ≠ 0 := by rintro rfl; have := Nat.eq_zero_of_zero_dvd hd; omega
  omega

theorem step_prime {l : List StepV} {k : Nat} {s : StepV} (h : stepOk l k s = true) (ih : ∀ j, j < k → j < l.length → Prime (l.getD j default).N) : Prime s.N := by
  rw [stepOk, Bool.and_eq_true] at h
  obtain ⟨h3, _, h1, hlt, _, hpr, hord⟩ := headOk_true h.1
  have hQ : ∀ q ∈ s.Q, Prime q := by
    intro q hq
    obtain ⟨i, hi, rfl⟩ := List.getElem_of_mem hq
    have h2 := List.all_eq_true.1 h.2 i (List.mem_range.2 hi)
    rw [qOk, Bool.and_eq_true] at h2
    have h4 := h2.1
    have e : s.Q.getD i 0 = s.Q[i] := by simp [List.getD, hi]
    rw [shownF, Bool.or_eq_true, e] at h4
    rcases h4 with h5 | h5
    · obtain ⟨x, hx, hxN⟩ := List.any_eq_true.1 h5
      obtain ⟨j, hj, rfl⟩ := List.getElem_of_mem hx
      rw [List.length_take] at hj
      rw [List.getElem_take] at hxN
      have hjl : j < l.length := by omega
      have := ih j (by omega) hjl
      have e2 : l.getD j default = l[j] := by simp [List.getD, hjl]
      rw [e2] at this
      rw [beq_iff_eq] at hxN
      rw [← hxN]; exact this
    · rw [beq_iff_eq] at h5
      rw [h5]; exact prime_two
  rw [ordF, Bool.and_eq_true, beq_iff_eq] at hord
  refine lucas (g := s.G) (by omega) hord.1 fun r hr hd => ?_
  have hm := prodL_primes s.Q s.E _ hpr hQ r hr hd
  have h6 := List.all_eq_true.1 hord.2 r hm
  rw [notOne, Bool.not_eq_true', beq_eq_false_iff_ne] at h6
  exact h6

theorem paper_prime {l : List StepV} (h : ((List.range l.length).all fun k => stepOk l k (l.getD k default)) = true) : ∀ k, k < l.length → Prime (l.getD k default).N := by
  intro k
  induction k using Nat.strongRecOn with
  | _ k ih =>
    intro hk
    exact step_prime (List.all_eq_true.1 h k (List.mem_range.2 hk)) fun j hj hjl => ih j hj hjl

theorem holds_prime {n : Nat} {l : List StepV} (h : holdsF n l = true) : Prime n := by
  rw [holdsF] at h
  split at h
  · rw [beq_iff_eq] at h; rw [h]; exact prime_two
  · rename_i h0
    rw [Bool.and_eq_true, beq_iff_eq] at h
    rw [← h.2]
    exact paper_prime h.1 _ (by omega)
end Go.Proofs.YtpphfeinmmmckaaDoor
