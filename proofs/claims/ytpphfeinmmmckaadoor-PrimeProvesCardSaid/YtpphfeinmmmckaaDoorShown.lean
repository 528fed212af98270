/-
  prime.Holds$1 (shown), on a paper in memory.
-/
import Derived.Test.YtpphfeinmmmckaaDoorOrder
namespace Go.Proofs.YtpphfeinmmmckaaDoor
open Go.RowKit

/-- A step of a paper: its numbers, and where its rows lie. -/
structure StepV where
  N : Nat
  G : Nat
  Q : List Nat
  E : List Int
  qa : Option Addr
  ea : Option Addr
  qc : Nat
  ec : Nat

instance : Inhabited StepV := ⟨⟨0, 0, [], [], none, none, 0, 0⟩⟩

structure StepAt (w : World) (b : Addr) (s : StepV) : Prop where
  c0 : w.cell? b = some (.int .u64 s.N)
  c1 : w.cell? ⟨b.block, b.off + 1, none⟩ = some (.int .u64 s.G)
  c2 : w.cell? ⟨b.block, b.off + 2, none⟩ = some (.slice s.qa s.Q.length s.qc)
  c3 : w.cell? ⟨b.block, b.off + 3, none⟩ = some (.slice s.ea s.E.length s.ec)
  q : U64s w s.qa s.Q
  e : I64s w s.ea s.E
  lenQ : s.Q.length ≤ 9223372036854775807
  lenE : s.E.length ≤ 9223372036854775807
  nb : s.N < 18446744073709551616
  gb : s.G < 18446744073709551616
  qb : ∀ x ∈ s.Q, x < 18446744073709551616

structure PaperAt (w : World) (a : Option Addr) (l : List StepV) : Prop where
  at_ : 0 < l.length → ∃ b, a = some b
  len : l.length ≤ 9223372036854775807
  steps : ∀ b, a = some b → ∀ i, i < l.length → StepAt w (b.add (i * 4)) (l.getD i default)

theorem cell_later {w w' : World} (hb : Below w.heap.size w w') {p : Addr} {v : Value} (h : w.cell? p = some v) : w'.cell? p = some v :=
  (hb.cell (World.block_lt_of_cell? _ _ h)).trans h

theorem StepAt.later {w w' : World} {b : Addr} {s : StepV} (h : StepAt w b s) (hb : Below w.heap.size w w') : StepAt w' b s :=
  ⟨cell_later hb h.c0, cell_later hb h.c1, cell_later hb h.c2, cell_later hb h.c3, h.q.later hb, h.e.later hb, h.lenQ, h.lenE, h.nb, h.gb, h.qb⟩

theorem PaperAt.later {w w' : World} {a : Option Addr} {l : List StepV} (h : PaperAt w a l) (hb : Below w.heap.size w w') : PaperAt w' a l :=
  ⟨h.at_, h.len, fun b e i hi => (h.steps b e i hi).later hb⟩

theorem any_drop {l : List StepV} {len n j : Nat} (hl : l.length = len) (hn : n ≤ len) (hj : j < n) (f : StepV → Bool) : ((l.take n).drop j).any f = (f (l.getD j default) || ((l.take n).drop (j + 1)).any f) := by
  have hlen : (l.take n).length = n := by rw [List.length_take]; omega
  have h1 : (l.take n).drop j = l.getD j default :: (l.take n).drop (j + 1) := by
    rw [List.drop_eq_getElem_cons (by omega), List.getElem_take]
    simp [List.getD, show j < l.length by omega]
  rw [h1, List.any_cons]

def ShownRel (n : Nat) (l : List StepV) (p : Nat) (R : Bool) (B : Nat) (w : World) (t12 : Value) (wr : World) : Prop := ∃ j : Nat, t12 = .int .i64 j ∧ j ≤ n ∧ Below B w wr ∧ (((l.take n).drop j).any fun s => s.N == p) = R

set_option maxRecDepth 100000 in
set_option maxHeartbeats 800000 in
theorem shown_any (n len cap : Nat) (l : List StepV) (hl : Hid (l.length = len)) (hn : Hid (n ≤ len)) (p : Nat) (a : Option Addr) (h : Nat) (w : World) (hp : Hid (PaperAt w a l)) (hc : w.cell? ⟨h, 0, none⟩ = some (.slice a len cap)) (hcap : Hid (len ≤ cap)) :
    Calls Tryd.prog 31 #[.int .u64 p, .int .i64 n, .pointer (some ⟨h, 0, none⟩)] w fun e w' => e = .returned (.bool (((l.take n).any fun s => s.N == p) || p == 2)) ∧ Below w.heap.size w w' := by
  have hnc : n ≤ cap := by have := hn.out; have := hcap.out; omega
  go_enter Tryd.func31, Tryd.ntmps31
  go_wp2_with fail
  clear hnc hc
  go_loopw [12] (fun t12 wr => ShownRel n l p ((l.take n).any fun s => s.N == p) w.heap.size w t12 wr) (fun t12 _ => n - (intOf t12).toNat)
  case atStart => exact ⟨0, rfl, Nat.zero_le _, Below.refl _ _, by rw [List.drop_zero]⟩
  case round =>
    obtain ⟨j, rfl, hj, hbel, hR⟩ := hrel
    have Hbel := Lib.hid hbel; clear hbel
    have HR := Lib.hid hR; clear hR
    by_cases hjn : j < n
    · obtain ⟨b, rfl⟩ := hp.out.at_ (by rw [hl.out]; have := hn.out; omega)
      have hs := (hp.out.steps b rfl j (by rw [hl.out]; have := hn.out; omega)).later Hbel.out
      have hst := any_drop hl.out hn.out hjn (fun s => s.N == p)
      obtain ⟨s, hss⟩ : ∃ s, s = l.getD j default := ⟨_, rfl⟩
      rw [← hss] at hs hst
      have c0 := hs.c0
      have c1 := hs.c1
      have c2 := hs.c2
      have c3 := hs.c3
      have Hs := Lib.hid hs; clear hs
      have hst2 := hst.symm.trans HR.out
      obtain ⟨N, hN⟩ : ∃ N, N = s.N := ⟨_, rfl⟩
      have hst3 : ((N == p) || ((l.take n).drop (j + 1)).any fun s => s.N == p) = ((l.take n).any fun s => s.N == p) := by rw [hN]; exact hst2
      rw [← hN] at c0
      obtain ⟨G, hG⟩ : ∃ G, G = s.G := ⟨_, rfl⟩
      rw [← hG] at c1
      obtain ⟨lq, hlq⟩ : ∃ z, z = s.Q.length := ⟨_, rfl⟩
      rw [← hlq] at c2
      obtain ⟨le, hle⟩ : ∃ z, z = s.E.length := ⟨_, rfl⟩
      rw [← hle] at c3
      have HX := Lib.hid (And.intro hss (And.intro hN (And.intro hG (And.intro hlq hle)))); clear hss hN hG hlq hle hst hst2
      have ek : wrap64 ((j : Int) + 1) = (j : Int) + 1 := by have := hn.out; have := hp.out.len; have := hl.out; rw [IntWalk.wrap64_in _ (by omega)]
      have tN : ((N : Int) == (p : Int)) = (N == p) := by rw [Bool.eq_iff_iff, beq_iff_eq, beq_iff_eq]; omega
      cases hb : (N == p) with
      | true =>
        rw [hb] at tN
        have HF := Lib.hid (show true = ((l.take n).any fun s => s.N == p) by rw [hb] at hst3; exact hst3); clear hst3 hb
        go_wp2_with fail
        go_ret
        exact ⟨by rw [← HF.out]; rfl, (Hbel.out.alloc Hbel.out.size _).mono (Nat.le_refl _)⟩
      | false =>
        rw [hb] at tN
        have HF := Lib.hid (show (((l.take n).drop (j + 1)).any fun s => s.N == p) = ((l.take n).any fun s => s.N == p) by rw [hb] at hst3; exact hst3); clear hst3 hb
        go_wp2_with fail
        go_roundw
        case rel => exact ⟨j + 1, by rw [ek]; rfl, by omega, Hbel.out.alloc Hbel.out.size _, HF.out⟩
        case measure =>
          rw [ek]
          show n - ((j : Int) + 1).toNat < n - ((j : Int)).toNat
          omega
    · obtain rfl : n = j := by omega
      have hfin := HR.out
      rw [List.drop_of_length_le (by rw [List.length_take]; omega)] at hfin
      have Hf := Lib.hid (show false = _ from hfin); clear hfin
      have tN : ((p : Int) == 2) = (p == 2) := by rw [Bool.eq_iff_iff, beq_iff_eq, beq_iff_eq]; omega
      go_wp2_with fail
      go_ret
      refine ⟨?_, Hbel.out⟩
      rw [← Hf.out, ← tN]
      rfl
end Go.Proofs.YtpphfeinmmmckaaDoor
