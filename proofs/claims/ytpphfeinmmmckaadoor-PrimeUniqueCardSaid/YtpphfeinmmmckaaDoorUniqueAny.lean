/-
  PrimeUnique on any arguments.
-/
import Derived.Test.YtpphfeinmmmckaaDoorUnique
namespace Go.Proofs.YtpphfeinmmmckaaDoor
open Go.RowKit

theorem fac_call (N : Nat) (h1 : 1 ≤ N) (h2 : N ≤ 1099511627776) (w : World) :
    Calls Tryd.prog 19 #[.int .u64 N] w fun e w' => ∃ a c a' c' g g', e = .returned (.tuple #[.slice a (facs N).length c, .slice a' (facs N).length c', .int .i64 0]) ∧ ListAt w' a a' (facs N) g g' ∧ Below w.heap.size w w' := by
  refine (factor_in N w (decide_eq_false (by omega)) (decide_eq_false (by omega)) (Lib.hid ⟨h1, h2⟩)).mono ?_
  rintro e w' ⟨v2, v3, rfl, hp, hbl⟩
  obtain ⟨a, c, a', c', g, g', rfl, rfl, h⟩ := pair_listAt hp
  exact ⟨a, c, a', c', g, g', rfl, h, hbl⟩

theorem getD_mem {l : List (Nat × Nat)} {k : Nat} (hk : k < l.length) : l.getD k (0, 0) ∈ l := by
  have : l.getD k (0, 0) = l[k] := by simp [List.getD, hk]
  rw [this]; exact List.getElem_mem hk

theorem fac_at {n : Nat} (h : FacOk 2 n (facs n)) {k : Nat} (hk : k < (facs n).length) : oftenL (facs n) ((facs n).getD k (0, 0)).1 = ((facs n).getD k (0, 0)).2 :=
  often_of _ _ _ h.rises (getD_mem hk)

theorem prime_lt {n : Nat} (h : FacOk 2 n (facs n)) (hn : 1 ≤ n) {x : Nat × Nat} (hx : x ∈ facs n) : x.1 ≤ n := by
  obtain ⟨h1, h2, h3, h4, h5, h6⟩ := h.each x hx
  refine Nat.le_trans ?_ (Nat.le_of_dvd (by omega) h5)
  calc x.1 = x.1 ^ 1 := (Nat.pow_one _).symm
    _ ≤ x.1 ^ x.2 := Nat.pow_le_pow_right (by omega) h3

theorem unique_any (A B : Nat) (w : World) (hA : A < 4294967296) (hB : B < 4294967296) (hT : Hid (TabAt w)) :
    Calls Tryd.prog 8 #[.int .u32 A, .int .u32 B] w fun e w' => e = .returned (.bool true) ∧ Below w.heap.size w w' := by
  obtain ⟨x, hx⟩ : ∃ x, x = A % 1048576 + 1 := ⟨_, rfl⟩
  obtain ⟨y, hy⟩ : ∃ y, y = B % 1048576 + 1 := ⟨_, rfl⟩
  have bx : 1 ≤ x ∧ x ≤ 1048576 := by omega
  have bx' : 1 ≤ y ∧ y ≤ 1048576 := by omega
  have b1 : 1 ≤ x * y := Nat.mul_pos (by omega) (by omega)
  have b2 : x * y ≤ 1099511627776 := Nat.mul_le_mul bx.2 bx'.2
  have F := facs_ok (x * y) b1 b2
  have F1 := facs_ok x (by omega) (by omega)
  have F2 := facs_ok y (by omega) (by omega)
  have hall : ∀ p, Nt.Prime p → oftenL (facs (x * y)) p = oftenL (facs x) p + oftenL (facs y) p := fun p hp => often_add F F1 F2 hp
  have w64 : ∀ m : Nat, m < 18446744073709551616 → IntKind.u64.wrap (m : Int) = (m : Int) := fun m hm => IntWalk.u64_in _ (by omega)
  refine unique_loop1 A B x y (facs (x * y)).length (facs x).length (facs y).length (facs (x * y)) (facs x) (facs y) w hT (Lib.hid rfl) (Lib.hid rfl) (Lib.hid rfl) ?_ ?_ ?_ (w64 A (by omega)) (w64 B (by omega)) (by omega) (by omega) (w64 x (by omega)) (w64 y (by omega)) (Lib.hid ⟨?_, ?_⟩) (Lib.hid ?_) (Lib.hid ?_) (Lib.hid ?_) (Lib.hid ?_) (x * y) ?_
    (Lib.hid (fac_call _ b1 b2)) (Lib.hid (fac_call x (by omega) (by omega))) (Lib.hid (fac_call y (by omega) (by omega)))
  · have := facs_len (x * y); omega
  · have := facs_len x; omega
  · have := facs_len y; omega
  · exact fun z hz => (F1.each z hz).2.2.2.1
  · exact fun z hz => (F2.each z hz).2.2.2.1
  · exact fun z hz => (F.each z hz).2.2.2.1
  · intro k hk
    have hm := F1.each _ (getD_mem hk)
    have h1 := fac_at F1 hk
    have h2 := hall _ hm.1
    exact ⟨hm.2.2.1, by omega⟩
  · intro k hk
    have hm := F2.each _ (getD_mem hk)
    have h1 := fac_at F2 hk
    have h2 := hall _ hm.1
    exact ⟨hm.2.2.1, by omega⟩
  · intro k hk
    have hm := F.each _ (getD_mem hk)
    have h1 := fac_at F hk
    have h2 := hall _ hm.1
    have hle := prime_lt F b1 (getD_mem hk)
    refine ⟨mrIs_prime hm.1 (by omega), hm.2.2.1, by omega, hm.2.2.2.1, fun hk1 => ?_⟩
    have hr := List.pairwise_iff_getElem.1 F.rises (k - 1) k (by omega) hk (by omega)
    have e1 : ((facs (x * y)).getD (k - 1) (0, 0)) = (facs (x * y))[k - 1] := by simp [List.getD, show k - 1 < (facs (x * y)).length by omega]
    have e2 : ((facs (x * y)).getD k (0, 0)) = (facs (x * y))[k] := by simp [List.getD, hk]
    rw [e1, e2]; exact hr
  · rw [← Int.natCast_mul]; exact w64 _ (by omega)
end Go.Proofs.YtpphfeinmmmckaaDoor
