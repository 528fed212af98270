/-
  prime.product, prime.order: on a step by value.
-/
import Derived.Test.YtpphfeinmmmckaaDoorUnique
namespace Go.Proofs.YtpphfeinmmmckaaDoor
open Go.RowKit

/-- A row of numbers in memory. -/
structure U64s (w : World) (a : Option Addr) (q : List Nat) : Prop where
  at_ : 0 < q.length → ∃ b, a = some b
  cells : ∀ b, a = some b → ∀ j, j < q.length → w.cell? (b.add j) = some (.int .u64 ((q.getD j 0 : Nat) : Int))

structure I64s (w : World) (a : Option Addr) (e : List Int) : Prop where
  at_ : 0 < e.length → ∃ b, a = some b
  cells : ∀ b, a = some b → ∀ j, j < e.length → w.cell? (b.add j) = some (.int .i64 (e.getD j 0))

theorem U64s.later {w w' : World} {a : Option Addr} {q : List Nat} (h : U64s w a q) (hb : Below w.heap.size w w') : U64s w' a q :=
  ⟨h.at_, fun b e j hj => by
    have h1 := h.cells b e j hj
    exact (hb.cell (World.block_lt_of_cell? _ _ h1)).trans h1⟩

theorem I64s.later {w w' : World} {a : Option Addr} {q : List Int} (h : I64s w a q) (hb : Below w.heap.size w w') : I64s w' a q :=
  ⟨h.at_, fun b e j hj => by
    have h1 := h.cells b e j hj
    exact (hb.cell (World.block_lt_of_cell? _ _ h1)).trans h1⟩

/-- How often q is divided out: e times, or not at all. -/
def divs (q : Nat) : Nat → Nat → Option Nat
  | 0, left => some left
  | e + 1, left => if left % q = 0 then divs q e (left / q) else none

def prodL : List Nat → List Int → Nat → Bool
  | [], _, left => left == 1
  | q :: Q, E, left => match E with
    | [] => false
    | e :: E' => if q < 2 ∨ e < 1 ∨ 63 < e then false else
      match divs q e.toNat left with
      | none => false
      | some l' => prodL Q E' l'

theorem prodL_step {Q : List Nat} {E : List Int} {k n : Nat} (hQ : Q.length = n) (hE : E.length = n) (hk : k < n) (left : Nat) : prodL (Q.drop k) (E.drop k) left =
    (if Q.getD k 0 < 2 ∨ E.getD k 0 < 1 ∨ 63 < E.getD k 0 then false else match divs (Q.getD k 0) (E.getD k 0).toNat left with | none => false | some l' => prodL (Q.drop (k + 1)) (E.drop (k + 1)) l') := by
  have h1 : Q.drop k = Q.getD k 0 :: Q.drop (k + 1) := by rw [List.drop_eq_getElem_cons (by omega)]; simp [List.getD, show k < Q.length by omega]
  have h2 : E.drop k = E.getD k 0 :: E.drop (k + 1) := by rw [List.drop_eq_getElem_cons (by omega)]; simp [List.getD, show k < E.length by omega]
  rw [h1, h2]; rfl

theorem divs_step {q e left : Nat} (h : left % q = 0) : divs q (e + 1) left = divs q e (left / q) := by rw [divs, if_pos h]
theorem divs_stop {q e left : Nat} (h : ¬ left % q = 0) : divs q (e + 1) left = none := by rw [divs, if_neg h]

def ProdRel (n : Nat) (Q : List Nat) (E : List Int) (R : Bool) (t3 t12 : Value) : Prop := ∃ left k : Nat, t3 = .int .u64 left ∧ t12 = .int .i64 k ∧ k ≤ n ∧ left < 18446744073709551616 ∧ prodL (Q.drop k) (E.drop k) left = R

def DivsRel (q m : Nat) (R : Option Nat) (t3 t40 : Value) : Prop := ∃ left j : Nat, t3 = .int .u64 left ∧ t40 = .int .i64 j ∧ j ≤ m ∧ left < 18446744073709551616 ∧ divs q (m - j) left = R

set_option maxRecDepth 100000 in
set_option maxHeartbeats 800000 in
theorem product_any (n : Nat) (Q : List Nat) (E : List Int) (hQ : Hid (Q.length = n)) (hE : Hid (E.length = n)) (hn : Hid (n ≤ 9223372036854775807)) (N G : Nat) (hNb : Hid (N < 18446744073709551616)) (hN : IntKind.u64.wrap ((N : Int) - 1) = ((N - 1 : Nat) : Int)) (a a' : Option Addr) (c c' : Nat) (w : World) (hq : Hid (U64s w a Q)) (he : Hid (I64s w a' E)) :
    Calls Tryd.prog 32 #[.agg #[.int .u64 N, .int .u64 G, .slice a n c, .slice a' n c']] w fun e w' => e = .returned (.bool (prodL Q E (N - 1))) ∧ Below w.heap.size w w' := by
  obtain ⟨w1, hw1⟩ : ∃ w1, w1 = w.alloc (.cells #[.int .u64 N, .int .u64 G, .slice a n c, .slice a' n c'] 43) := ⟨_, rfl⟩
  have hb1 : Hid (Below w.heap.size w w1) := Lib.hid (by rw [hw1]; exact (Below.refl _ _).alloc (Nat.le_refl _) _)
  have hq1 := Lib.hid (hq.out.later hb1.out)
  have he1 := Lib.hid (he.out.later hb1.out)
  obtain ⟨M, hM⟩ : ∃ M, M = N - 1 := ⟨_, rfl⟩
  have hMb : Hid (M < 18446744073709551616) := Lib.hid (by have := hNb.out; omega)
  rw [← hM] at hN ⊢
  have HM := Lib.hid hM; clear hM
  go_enter Tryd.func32, Tryd.ntmps32
  go_wp2_with fail
  rw [← hw1]
  have h3 : w1.cell? ⟨w.heap.size, 3, none⟩ = some (.slice a' n c') := by rw [hw1]; exact World.cell?_alloc_at _ _ _ _ rfl
  have Hw1 := Lib.hid hw1; clear hw1 hN
  go_loop [3, 12] (fun t3 t12 => ProdRel n Q E (prodL Q E M) t3 t12) (fun _ t12 => n - (intOf t12).toNat)
  case atStart => exact ⟨M, 0, rfl, rfl, Nat.zero_le _, hMb.out, by rw [List.drop_zero, List.drop_zero]⟩
  case round =>
    obtain ⟨left, k, rfl, rfl, hk, hlt, hR⟩ := hrel
    have Hlt := Lib.hid hlt; clear hlt
    have HR := Lib.hid hR; clear hR
    have hnn := hn.out
    by_cases hkn : k < n
    · obtain ⟨b, rfl⟩ := hq1.out.at_ (by rw [hQ.out]; omega)
      obtain ⟨b', rfl⟩ := he1.out.at_ (by rw [hE.out]; omega)
      have q1 := hq1.out.cells b rfl k (by rw [hQ.out]; exact hkn)
      have e1 := he1.out.cells b' rfl k (by rw [hE.out]; exact hkn)
      have hst := prodL_step hQ.out hE.out hkn left
      obtain ⟨q, hq⟩ : ∃ q, q = Q.getD k 0 := ⟨_, rfl⟩
      obtain ⟨e, he⟩ : ∃ e, e = E.getD k 0 := ⟨_, rfl⟩
      rw [← hq] at q1 hst
      rw [← he] at e1 hst
      have Hst := Lib.hid hst; clear hst
      have Hqe := Lib.hid (And.intro hq he); clear hq he hnn
      by_cases hq2 : q < 2
      · have tq : decide ((q : Int) < 2) = true := decide_eq_true (by omega)
        have hF : false = prodL Q E M := by rw [← HR.out, Hst.out, if_pos (.inl hq2)]
        have HF := Lib.hid hF; clear hF hq2
        go_wp2_with fail
        try rw [Exit.noGoto_ret]
        go_ret
        exact ⟨by rw [← HF.out]; rfl, hb1.out⟩
      by_cases he1 : e < 1
      · have tq : decide ((q : Int) < 2) = false := decide_eq_false (by omega)
        have te : decide (e < 1) = true := decide_eq_true he1
        have hF : false = prodL Q E M := by rw [← HR.out, Hst.out, if_pos (.inr (.inl he1))]
        have HF := Lib.hid hF; clear hF hq2 he1
        go_wp2_with fail
        try rw [Exit.noGoto_ret]
        go_ret
        exact ⟨by rw [← HF.out]; rfl, hb1.out⟩
      by_cases he2 : 63 < e
      · have tq : decide ((q : Int) < 2) = false := decide_eq_false (by omega)
        have te : decide (e < 1) = false := decide_eq_false he1
        have te2 : decide (63 < e) = true := decide_eq_true he2
        have hF : false = prodL Q E M := by rw [← HR.out, Hst.out, if_pos (.inr (.inr he2))]
        have HF := Lib.hid hF; clear hF hq2 he1 he2
        go_wp2_with fail
        try rw [Exit.noGoto_ret]
        go_ret
        exact ⟨by rw [← HF.out]; rfl, hb1.out⟩
      have tq : decide ((q : Int) < 2) = false := decide_eq_false (by omega)
      have te : decide (e < 1) = false := decide_eq_false he1
      have te2 : decide (63 < e) = false := decide_eq_false he2
      have hst2 := Hst.out
      rw [if_neg (by omega)] at hst2
      obtain ⟨m, rfl⟩ : ∃ m : Nat, e = (m : Int) := ⟨e.toNat, by omega⟩
      rw [Int.toNat_natCast] at hst2
      have Hst2 := Lib.hid hst2; clear hst2 Hst
      have hm : m ≤ 63 := by omega
      have Hq2 := Lib.hid hq2; clear hq2 he1 he2
      have Hm := Lib.hid hm; clear hm
      go_wp2_with fail
      go_loop [3, 40] (fun t3 t40 => DivsRel q m (divs q m left) t3 t40) (fun _ t40 => m - (intOf t40).toNat)
      case atStart => exact ⟨left, 0, rfl, rfl, Nat.zero_le _, Hlt.out, rfl⟩
      case round =>
        obtain ⟨l, j, rfl, rfl, hj, hlt, hd⟩ := hrel
        have Hd := Lib.hid hd; clear hd
        have hmm := Hm.out
        have Hlt2 := Lib.hid hlt; clear hlt
        by_cases hjm : j < m
        · have tj : decide (j < m) = true := decide_eq_true hjm
          have hst3 : divs q (m - j) l = _ := congrArg (fun x => divs q x l) (show m - j = (m - (j + 1)) + 1 by omega)
          by_cases hdv : l % q = 0
          · rw [divs_step hdv] at hst3
            have Hst3 := Lib.hid hst3; clear hst3
            have hq2 := Hq2.out
            have t3 : ((l : Int) % (q : Int) == 0) = true := by rw [beq_iff_eq]; omega
            obtain ⟨l', hl'⟩ : ∃ l', l' = l / q := ⟨_, rfl⟩
            have em : (l : Int) / (q : Int) = (l' : Int) := by rw [hl', Int.natCast_ediv]
            have hle : l' ≤ l := by rw [hl']; exact Nat.div_le_self _ _
            have hl2 : l' < 18446744073709551616 := by have := Hlt2.out; omega
            have em' : IntKind.u64.wrap (l' : Int) = (l' : Int) := IntWalk.u64_in _ (by omega)
            have hq0 : (q : Int) ≠ 0 := by omega
            have Hx := Lib.hid (And.intro hl' (And.intro hl2 hdv)); clear hl' hle hl2 hdv hq2
            go_wp2_with fail
            go_round
            case rel => exact ⟨l', j + 1, rfl, by go_num, by omega, Hx.out.2.1, by rw [← Hd.out, Hst3.out, Hx.out.1]⟩
            case measure => simp [intOf]; omega
          · rw [divs_stop hdv] at hst3
            have hq2 := Hq2.out
            have t3 : ((l : Int) % (q : Int) == 0) = false := by rw [beq_eq_false_iff_ne]; omega
            have hq0 : (q : Int) ≠ 0 := by omega
            have hF : false = prodL Q E M := by rw [← HR.out, Hst2.out, ← Hd.out, hst3]
            have HF := Lib.hid hF; clear hF hst3 hdv hq2
            go_wp2_with fail
            try rw [Exit.noGoto_ret]
            go_ret
            exact ⟨by rw [← HF.out]; rfl, hb1.out⟩
        · obtain rfl : m = j := by omega
          have hd := Hd.out
          rw [Nat.sub_self] at hd
          have hF : prodL (Q.drop (k + 1)) (E.drop (k + 1)) l = prodL Q E M := by rw [← HR.out, Hst2.out, ← hd]; rfl
          have HF := Lib.hid hF; clear hF hd hmm
          have ek : wrap64 ((k : Int) + 1) = (k : Int) + 1 := by have := hn.out; rw [IntWalk.wrap64_in _ (by omega)]
          go_wp2_with fail
          go_round
          case rel => exact ⟨l, k + 1, rfl, by rw [ek]; rfl, by omega, Hlt2.out, HF.out⟩
          case measure =>
            rw [ek]
            show n - ((k : Int) + 1).toNat < n - ((k : Int)).toNat
            omega
    · obtain rfl : n = k := by omega
      have hfin := HR.out
      rw [List.drop_of_length_le (by rw [hQ.out]; omega)] at hfin
      have hfin2 : (left == 1) = prodL Q E M := hfin
      have Hf := Lib.hid hfin2; clear hfin hfin2 hnn
      go_wp2_with fail
      go_ret
      refine ⟨?_, hb1.out⟩
      rw [← Hf.out]
      show Ending.returned (.bool ((left : Int) == 1)) = _
      congr 2
      rw [Bool.eq_iff_iff, beq_iff_eq, beq_iff_eq]; omega
end Go.Proofs.YtpphfeinmmmckaaDoor
