/-
  prime.Holds, on a paper in memory.
-/
import Derived.Test.YtpphfeinmmmckaaDoorShown
namespace Go.Proofs.YtpphfeinmmmckaaDoor
open Go.RowKit

def shownF (l : List StepV) (k q : Nat) : Bool := ((l.take k).any fun s => s.N == q) || q == 2

/-- A step's i-th prime: is it shown ahead, and above the one before it? -/
def qOk (l : List StepV) (k : Nat) (Q : List Nat) (i : Nat) : Bool := shownF l k (Q.getD i 0) && !(decide (0 < i) && decide (Q.getD i 0 ≤ Q.getD (i - 1) 0))

def headV (N G nq ne : Nat) (pr od : Bool) : Bool :=
  if N < 3 then false else if 9223372036854775808 ≤ N then false else if G < 1 then false else if N ≤ G then false
  else if ne ≠ nq then false else pr && od

def headOk (s : StepV) : Bool := headV s.N s.G s.Q.length s.E.length (prodL s.Q s.E (s.N - 1)) (ordF s.G (s.N - 1) s.N s.Q)

def stepOk (l : List StepV) (k : Nat) (s : StepV) : Bool := headOk s && (List.range s.Q.length).all (qOk l k s.Q)

def holdsF (n : Nat) (l : List StepV) : Bool :=
  if l.length = 0 then n == 2 else ((List.range l.length).all fun k => stepOk l k (l.getD k default)) && (l.getD (l.length - 1) default).N == n

theorem range_drop {n i : Nat} (hi : i < n) (f : Nat → Bool) : ((List.range n).drop i).all f = (f i && ((List.range n).drop (i + 1)).all f) := by
  rw [List.drop_eq_getElem_cons (by rw [List.length_range]; exact hi), List.getElem_range, List.all_cons]

def HoldRel (len : Nat) (F : Nat → Bool) (R : Bool) (w1 : World) (t18 : Value) (wr : World) : Prop := ∃ k : Nat, t18 = .int .i64 k ∧ k ≤ len ∧ Below w1.heap.size w1 wr ∧ ((List.range len).drop k).all F = R

def HoldIn (nq : Nat) (F : Nat → Bool) (R : Bool) (wx : World) (t65 : Value) (wr : World) : Prop := ∃ i : Nat, t65 = .int .i64 i ∧ i ≤ nq ∧ Below wx.heap.size wx wr ∧ ((List.range nq).drop i).all F = R

theorem prodL_two : ∀ (Q : List Nat) (E : List Int) (left : Nat), prodL Q E left = true → ∀ q ∈ Q, 2 ≤ q
  | [], _, _, _ => fun q hq => absurd hq (by simp)
  | q :: Q, [], left, h => by simp [prodL] at h
  | q :: Q, e :: E, left, h => by
    rw [prodL] at h
    split at h
    · simp at h
    · rename_i hn
      split at h
      · simp at h
      · rename_i l' _
        intro x hx
        rcases List.mem_cons.1 hx with rfl | hx
        · omega
        · exact prodL_two Q E l' h x hx

set_option maxRecDepth 100000 in
set_option maxHeartbeats 1600000 in
theorem holds_some (x len cap : Nat) (l : List StepV) (hl : Hid (l.length = len)) (h0 : 0 < len) (A : Addr) (w : World) (hp : Hid (PaperAt w (some A) l)) (hcap : Hid (len ≤ cap)) (hlen : Hid (len ≤ 9223372036854775807)) :
    Calls Tryd.prog 24 #[.int .u64 x, .slice (some A) len cap] w fun e w' => e = .returned (.bool (((List.range len).all fun k => stepOk l k (l.getD k default)) && (l.getD (len - 1) default).N == x)) ∧ Below w.heap.size w w' := by
  obtain ⟨w1, hw1⟩ : ∃ w1, w1 = w.alloc (.cells #[.slice (some A) len cap] 41) := ⟨_, rfl⟩
  have hb1 : Hid (Below w.heap.size w w1) := Lib.hid (by rw [hw1]; exact (Below.refl _ _).alloc (Nat.le_refl _) _)
  have hp1 := Lib.hid (hp.out.later hb1.out)
  have hs1 : Hid (w.heap.size < w1.heap.size) := Lib.hid (by rw [hw1]; show w.heap.size < (w.heap.push _).size; rw [Array.size_push]; omega)
  have box : Hid (w1.cell? ⟨w.heap.size, 0, none⟩ = some (.slice (some A) len cap)) := Lib.hid (by rw [hw1]; exact World.cell?_alloc_at _ _ _ _ rfl)
  have l0 : ((len : Int) == 0) = false := by rw [beq_eq_false_iff_ne]; omega
  obtain ⟨F, hF⟩ : ∃ F : Nat → Bool, F = fun k => stepOk l k (l.getD k default) := ⟨_, rfl⟩
  rw [← hF]
  have HF := Lib.hid hF; clear hF
  obtain ⟨NL, hNL⟩ : ∃ N, N = (l.getD (len - 1) default).N := ⟨_, rfl⟩
  rw [← hNL]
  have HNL := Lib.hid hNL; clear hNL
  go_enter Tryd.func24, Tryd.ntmps24
  go_wp2_with fail
  rw [← hw1]
  have Hw1 := Lib.hid hw1; clear hw1 l0
  go_loopw [18] (fun t18 wr => HoldRel len F ((List.range len).all F) w1 t18 wr) (fun t18 _ => len - (intOf t18).toNat)
  case atStart => exact ⟨0, rfl, Nat.zero_le _, Below.refl _ _, by rw [List.drop_zero]⟩
  case round =>
    obtain ⟨k, rfl, hk, hbel, hR⟩ := hrel
    have Hbel := Lib.hid hbel; clear hbel
    have HR := Lib.hid hR; clear hR
    by_cases hkn : k < len
    · obtain ⟨wo, rfl⟩ : ∃ z, z = wr := ⟨_, rfl⟩
      have hst := (range_drop hkn F).symm.trans HR.out
      have hs := (hp1.out.steps A rfl k (by rw [hl.out]; exact hkn)).later Hbel.out
      obtain ⟨s, hss⟩ : ∃ s, s = l.getD k default := ⟨_, rfl⟩
      rw [← hss] at hs
      have hFk : F k = stepOk l k s := by rw [HF.out, hss]
      have c0 := hs.c0
      have c1 := hs.c1
      have c2 := hs.c2
      have c3 := hs.c3
      have Hs := Lib.hid hs; clear hs
      have hfalse : Hid (headOk s = false → false = (List.range len).all F) := Lib.hid fun h => by rw [← hst, hFk, stepOk, h]; rfl
      have htrue : Hid (headOk s = true → ((List.range s.Q.length).all (qOk l k s.Q) && ((List.range len).drop (k + 1)).all F) = (List.range len).all F) := Lib.hid fun h => by rw [← hst, hFk, stepOk, h]; rfl
      obtain ⟨pr, hpr⟩ : ∃ z, z = prodL s.Q s.E (s.N - 1) := ⟨_, rfl⟩
      obtain ⟨od, hod⟩ : ∃ z, z = ordF s.G (s.N - 1) s.N s.Q := ⟨_, rfl⟩
      obtain ⟨N, hN⟩ : ∃ N, N = s.N := ⟨_, rfl⟩
      obtain ⟨G, hG⟩ : ∃ G, G = s.G := ⟨_, rfl⟩
      obtain ⟨nq, hnq⟩ : ∃ z, z = s.Q.length := ⟨_, rfl⟩
      obtain ⟨ne, hne⟩ : ∃ z, z = s.E.length := ⟨_, rfl⟩
      have Hhh : Hid (headOk s = headV N G nq ne pr od) := Lib.hid (by rw [hN, hG, hnq, hne, hpr, hod]; rfl)
      rw [← hN] at c0
      rw [← hG] at c1
      obtain ⟨qa, hqa⟩ : ∃ z, z = s.qa := ⟨_, rfl⟩
      rw [← hnq, ← hqa] at c2
      have HQ := Lib.hid hqa; clear hqa
      rw [← hne] at c3
      have hNb : Hid (N < 18446744073709551616) := Lib.hid (by rw [hN]; exact Hs.out.nb)
      have HX := Lib.hid (And.intro hss (And.intro hN (And.intro hG (And.intro hnq (And.intro hne (And.intro hpr hod)))))); clear hss hN hG hnq hne hpr hod hst hFk
      have hW : Hid (∀ W, Below w1.heap.size w1 W → Below w.heap.size w W) := Lib.hid fun W h => hb1.out.trans (h.mono hb1.out.size)
      obtain ⟨wx, hwx⟩ : ∃ wx, wx = wo.alloc (.cells #[.int .u64 N, .int .u64 G, .slice qa nq s.qc, .slice s.ea ne s.ec] 43) := ⟨_, rfl⟩
      have hbx : Hid (Below w1.heap.size w1 wx) := Lib.hid (by rw [hwx]; exact Hbel.out.alloc Hbel.out.size _)
      have Hwx := Lib.hid hwx; clear hwx
      by_cases g1 : N < 3
      · have t1 : decide ((N : Int) < 3) = true := decide_eq_true (by omega)
        have Hfin := Lib.hid (hfalse.out (by rw [Hhh.out]; exact if_pos g1))
        clear g1
        go_wp2_with fail
        rw [← Hwx.out]
        go_ret
        exact ⟨by rw [← Hfin.out]; rfl, hW.out _ hbx.out⟩
      have t1 : decide ((N : Int) < 3) = false := decide_eq_false (by omega)
      by_cases g2 : 9223372036854775808 ≤ N
      · have t2 : decide ((9223372036854775808 : Int) ≤ (N : Int)) = true := decide_eq_true (by omega)
        have Hfin := Lib.hid (hfalse.out (by rw [Hhh.out, headV, if_neg g1]; exact if_pos g2))
        clear g1 g2
        go_wp2_with fail
        rw [← Hwx.out]
        go_ret
        exact ⟨by rw [← Hfin.out]; rfl, hW.out _ hbx.out⟩
      have t2 : decide ((9223372036854775808 : Int) ≤ (N : Int)) = false := decide_eq_false (by omega)
      by_cases g3 : G < 1
      · have t3 : decide ((G : Int) < 1) = true := decide_eq_true (by omega)
        have Hfin := Lib.hid (hfalse.out (by rw [Hhh.out, headV, if_neg g1, if_neg g2]; exact if_pos g3))
        clear g1 g2 g3
        go_wp2_with fail
        rw [← Hwx.out]
        go_ret
        exact ⟨by rw [← Hfin.out]; rfl, hW.out _ hbx.out⟩
      have t3 : decide ((G : Int) < 1) = false := decide_eq_false (by omega)
      by_cases g4 : N ≤ G
      · have t4 : decide (N ≤ G) = true := decide_eq_true g4
        have Hfin := Lib.hid (hfalse.out (by rw [Hhh.out, headV, if_neg g1, if_neg g2, if_neg g3]; exact if_pos g4))
        clear g1 g2 g3 g4
        go_wp2_with fail
        rw [← Hwx.out]
        go_ret
        exact ⟨by rw [← Hfin.out]; rfl, hW.out _ hbx.out⟩
      have t4 : decide (N ≤ G) = false := decide_eq_false g4
      by_cases g5 : ne ≠ nq
      · have t5 : ¬ (ne : Int) = (nq : Int) := by omega
        have Hfin := Lib.hid (hfalse.out (by rw [Hhh.out, headV, if_neg g1, if_neg g2, if_neg g3, if_neg g4]; exact if_pos g5))
        clear g1 g2 g3 g4 g5
        go_wp2_with fail
        rw [← Hwx.out]
        go_ret
        exact ⟨by rw [← Hfin.out]; rfl, hW.out _ hbx.out⟩
      obtain rfl : ne = nq := by omega
      have hhv : headOk s = (pr && od) := by rw [Hhh.out, headV, if_neg g1, if_neg g2, if_neg g3, if_neg g4, if_neg g5]
      have Hhv := Lib.hid hhv; clear hhv Hhh
      have Hg := Lib.hid (And.intro g1 (And.intro g2 (And.intro g3 g4))); clear g1 g2 g3 g4 g5
      have eN : IntKind.u64.wrap ((N : Int) - 1) = ((N - 1 : Nat) : Int) := by have := Hg.out; rw [IntWalk.u64_in _ (by omega)]; omega
      have hneb : Hid (ne ≤ 9223372036854775807) := Lib.hid (by rw [HX.out.2.2.2.2.1]; exact Hs.out.lenE)
      have cP : Hid (Calls Tryd.prog 32 #[.agg #[.int .u64 N, .int .u64 G, .slice qa ne s.qc, .slice s.ea ne s.ec]] wx fun e w' => e = .returned (.bool pr) ∧ Below wx.heap.size wx w') := Lib.hid (by
        have hsx := Hs.out.later (show Below wo.heap.size wo wx by rw [Hwx.out]; exact (Below.refl _ _).alloc (Nat.le_refl _) _)
        have := product_any ne s.Q s.E (Lib.hid HX.out.2.2.2.1.symm) (Lib.hid HX.out.2.2.2.2.1.symm) hneb N G hNb eN qa s.ea s.qc s.ec wx (Lib.hid (by rw [HQ.out]; exact hsx.q)) (Lib.hid hsx.e)
        rw [HX.out.2.2.2.2.2.1, ← HX.out.2.1]
        exact this)
      have z0 : wx.cell? ⟨wo.heap.size, 0, none⟩ = some (.int .u64 N) := by rw [Hwx.out]; exact World.cell?_alloc_at _ _ _ _ rfl
      have z1 : wx.cell? ⟨wo.heap.size, 1, none⟩ = some (.int .u64 G) := by rw [Hwx.out]; exact World.cell?_alloc_at _ _ _ _ rfl
      have z2 : wx.cell? ⟨wo.heap.size, 2, none⟩ = some (.slice qa ne s.qc) := by rw [Hwx.out]; exact World.cell?_alloc_at _ _ _ _ rfl
      have z3 : wx.cell? ⟨wo.heap.size, 3, none⟩ = some (.slice s.ea ne s.ec) := by rw [Hwx.out]; exact World.cell?_alloc_at _ _ _ _ rfl
      have Z := Lib.hid (And.intro z0 (And.intro z1 (And.intro z2 z3))); clear z0 z1 z2 z3
      have eN2 := Lib.hid eN; clear eN
      go_wp2_with fail
      rw [← Hwx.out]
      refine cP.out.mono ?_
      rintro e w3 ⟨rfl, hb3⟩
      have Hb3 := Lib.hid hb3; clear hb3
      cases hpc : pr with
      | false =>
        have Hfin := Lib.hid (hfalse.out (by rw [Hhv.out, hpc]; rfl))
        go_wp2_with fail
        go_ret
        exact ⟨by rw [← Hfin.out]; rfl, hW.out _ (hbx.out.trans (Hb3.out.mono hbx.out.size))⟩
      | true =>
        have z0 := cell_later Hb3.out Z.out.1
        have z1 := cell_later Hb3.out Z.out.2.1
        have z2 := cell_later Hb3.out Z.out.2.2.1
        have z3 := cell_later Hb3.out Z.out.2.2.2
        have h2 : Hid (∀ q ∈ s.Q, 2 ≤ q) := Lib.hid (prodL_two s.Q s.E (s.N - 1) (by rw [← HX.out.2.2.2.2.2.1]; exact hpc))
        have cO : Hid (Calls Tryd.prog 33 #[.agg #[.int .u64 N, .int .u64 G, .slice qa ne s.qc, .slice s.ea ne s.ec]] w3 fun e w' => e = .returned (.bool od) ∧ Below w3.heap.size w3 w') := Lib.hid (by
          have hsx := (Hs.out.later (show Below wo.heap.size wo wx by rw [Hwx.out]; exact (Below.refl _ _).alloc (Nat.le_refl _) _)).later Hb3.out
          have := order_any ne s.Q (Lib.hid HX.out.2.2.2.1.symm) hneb N G (N - 1) (Lib.hid ⟨by have := Hg.out; omega, hNb.out, by have := hNb.out; omega⟩) eN2.out qa s.ea ne s.qc s.ec w3 (Lib.hid (by rw [HQ.out]; exact hsx.q)) (Lib.hid fun q hq => ⟨by have := h2.out q hq; omega, hsx.qb q hq⟩)
          rw [HX.out.2.2.2.2.2.2, ← HX.out.2.1, ← HX.out.2.2.1]
          exact this)
        go_wp2_with fail
        refine cO.out.mono ?_
        rintro e w4 ⟨rfl, hb4⟩
        have Hb4 := Lib.hid hb4; clear hb4
        clear z0 z1 z2 z3
        have HBx4 := Lib.hid (Hb3.out.trans (Hb4.out.mono Hb3.out.size))
        cases hoc : od with
        | false =>
          have Hfin := Lib.hid (hfalse.out (by rw [Hhv.out, hpc, hoc]; rfl))
          go_wp2_with fail
          go_ret
          exact ⟨by rw [← Hfin.out]; rfl, hW.out _ (hbx.out.trans (HBx4.out.mono hbx.out.size))⟩
        | true =>
          have hrest := htrue.out (by rw [Hhv.out, hpc, hoc]; rfl)
          have z2 := cell_later HBx4.out Z.out.2.2.1
          obtain ⟨f, hf⟩ : ∃ f, f = qOk l k s.Q := ⟨_, rfl⟩
          have hrest2 : Hid (((List.range ne).all f && ((List.range len).drop (k + 1)).all F) = (List.range len).all F) := Lib.hid (by rw [hf, HX.out.2.2.2.1]; exact hrest)
          have Hf := Lib.hid hf; clear hf hrest
          have hs4 := Lib.hid ((Hs.out.later (show Below wo.heap.size wo wx by rw [Hwx.out]; exact (Below.refl _ _).alloc (Nat.le_refl _) _)).later HBx4.out)
          have hb14 := Lib.hid (hbx.out.trans (HBx4.out.mono hbx.out.size))
          have hp4 := Lib.hid (hp1.out.later hb14.out)
          have box4 := Lib.hid (cell_later hb14.out box.out)
          have Z2 := Lib.hid z2
          go_wp2_with fail
          clear z2
          go_loopw [65] (fun t65 wr => HoldIn ne f ((List.range ne).all f) w4 t65 wr) (fun t65 _ => ne - (intOf t65).toNat)
          case atStart => exact ⟨0, rfl, Nat.zero_le _, Below.refl _ _, by rw [List.drop_zero]⟩
          case round =>
            obtain ⟨i, rfl, hi, hbi, hRi⟩ := hrel
            have Hbi := Lib.hid hbi; clear hbi
            by_cases hin : i < ne
            · have hst := (range_drop hin f).symm.trans hRi
              have hU := (hs4.out.later Hbi.out).q
              rw [← HQ.out] at hU
              obtain ⟨bq, rfl⟩ := hU.at_ (by rw [← HX.out.2.2.2.1]; omega)
              have q1 := hU.cells bq rfl i (by rw [← HX.out.2.2.2.1]; exact hin)
              obtain ⟨q, hq⟩ : ∃ q, q = s.Q.getD i 0 := ⟨_, rfl⟩
              rw [← hq] at q1
              obtain ⟨sh, hsh⟩ : ∃ z, z = shownF l k q := ⟨_, rfl⟩
              have HU := Lib.hid hU; clear hU
              have cS : Hid (Calls Tryd.prog 31 #[.int .u64 q, .int .i64 k, .pointer (some ⟨w.heap.size, 0, none⟩)] wr fun e w' => e = .returned (.bool sh) ∧ Below wr.heap.size wr w') := Lib.hid (by
                rw [hsh]
                exact shown_any k len cap l hl (Lib.hid hk) q (some A) w.heap.size wr (Lib.hid (hp4.out.later Hbi.out)) (cell_later Hbi.out box4.out) hcap)
              have hfi : f i = (sh && !(decide (0 < i) && decide (q ≤ s.Q.getD (i - 1) 0))) := by rw [Hf.out, qOk, ← hq, ← hsh]
              rw [hfi] at hst
              have Hst := Lib.hid hst; clear hst hRi hfi
              have Hq := Lib.hid (And.intro hq hsh); clear hq hsh
              have ei : wrap64 ((i : Int) + 1) = (i : Int) + 1 := by have := hneb.out; rw [IntWalk.wrap64_in _ (by omega)]
              go_wp2_with fail
              refine cS.out.mono ?_
              rintro e w5 ⟨rfl, hb5⟩
              have Hb5 := Lib.hid hb5; clear hb5
              have hb15 := Lib.hid (hb14.out.trans ((Hbi.out.trans (Hb5.out.mono Hbi.out.size)).mono hb14.out.size))
              have hb45 := Lib.hid (Hbi.out.trans (Hb5.out.mono Hbi.out.size))
              clear q1
              cases hsc : sh with
              | false =>
                have Hfin := Lib.hid (show false = (List.range len).all F by
                  have h1 := Hst.out
                  rw [hsc] at h1
                  rw [← hrest2.out, ← h1]; rfl)
                go_wp2_with fail
                try rw [Exit.noGoto_ret]
                go_ret
                exact ⟨by rw [← Hfin.out]; rfl, hW.out _ hb15.out⟩
              | true =>
                by_cases hi0 : i = 0
                · have i3 : decide ((0 : Int) < (i : Int)) = false := decide_eq_false (by omega)
                  have i4 : ¬ 0 < i := by omega
                  have Hnext := Lib.hid (show ((List.range ne).drop (i + 1)).all f = (List.range ne).all f by
                    have h1 := Hst.out
                    rw [hsc, show decide (0 < i) = false from decide_eq_false i4] at h1
                    exact h1)
                  have Hi0 := Lib.hid hi0; clear hi0
                  go_wp2_with fail
                  go_roundw
                  case rel => exact ⟨i + 1, by first | (rw [ei]; rfl) | rfl, by omega, hb45.out, Hnext.out⟩
                  case measure =>
                    try rw [ei]
                    show ne - ((i : Int) + 1).toNat < ne - ((i : Int)).toNat
                    omega
                · obtain ⟨j, hj⟩ : ∃ j, j + 1 = i := ⟨i - 1, by omega⟩
                  have q0 := (HU.out.later Hb5.out).cells bq rfl j (by rw [← HX.out.2.2.2.1]; omega)
                  have zz2 := cell_later hb45.out Z2.out
                  obtain ⟨q', hq'⟩ : ∃ q, q = s.Q.getD j 0 := ⟨_, rfl⟩
                  rw [← hq'] at q0
                  have i0 : (0 : Int) ≤ (j : Int) := Int.natCast_nonneg _
                  have i2 : (j : Int) < (ne : Int) := by omega
                  have i3 : decide ((0 : Int) < (i : Int)) = true := decide_eq_true (by omega)
                  have i4 : 0 < i := by omega
                  have ej : IntKind.i64.wrap ((i : Int) - 1) = (j : Int) := by have := hneb.out; rw [IntWalk.i64_in _ (by omega)]; omega
                  have hjs : s.Q.getD (i - 1) 0 = q' := by rw [hq', ← hj, Nat.add_sub_cancel]
                  have Hj := Lib.hid (And.intro hj hq'); clear hj hq'
                  by_cases hqq : q ≤ q'
                  · have t9 : decide (q ≤ q') = true := decide_eq_true hqq
                    have Hfin := Lib.hid (show false = (List.range len).all F by
                      have h1 := Hst.out
                      rw [hsc, hjs, show decide (0 < i) = true from decide_eq_true i4, t9] at h1
                      rw [← hrest2.out, ← h1]; rfl)
                    have Hqq := Lib.hid (And.intro hqq hjs); clear hqq hjs
                    go_wp2_with fail
                    try rw [Exit.noGoto_ret]
                    go_ret
                    exact ⟨by rw [← Hfin.out]; rfl, hW.out _ hb15.out⟩
                  · have t9 : decide (q ≤ q') = false := decide_eq_false hqq
                    have Hnext := Lib.hid (show ((List.range ne).drop (i + 1)).all f = (List.range ne).all f by
                      have h1 := Hst.out
                      rw [hsc, hjs, show decide (0 < i) = true from decide_eq_true i4, t9] at h1
                      exact h1)
                    have Hqq := Lib.hid (And.intro hqq hjs); clear hqq hjs
                    go_wp2_with fail
                    go_roundw
                    case rel => exact ⟨i + 1, by first | (rw [ei]; rfl) | rfl, by omega, hb45.out, Hnext.out⟩
                    case measure =>
                      try rw [ei]
                      show ne - ((i : Int) + 1).toNat < ne - ((i : Int)).toNat
                      omega
            · obtain rfl : ne = i := by omega
              have hfin := hRi
              rw [List.drop_of_length_le (by rw [List.length_range]; omega)] at hfin
              have Hnext := Lib.hid (show ((List.range len).drop (k + 1)).all F = (List.range len).all F by
                have h1 := hrest2.out
                rw [← hfin] at h1
                exact h1)
              clear hfin hRi
              have ek : wrap64 ((k : Int) + 1) = (k : Int) + 1 := by have := hlen.out; rw [IntWalk.wrap64_in _ (by omega)]
              have hb1r := Lib.hid (hb14.out.trans (Hbi.out.mono hb14.out.size))
              go_wp2_with fail
              go_roundw
              case rel => exact ⟨k + 1, by first | (rw [ek]; rfl) | rfl, by omega, hb1r.out, Hnext.out⟩
              case measure =>
                try rw [ek]
                show len - ((k : Int) + 1).toNat < len - ((k : Int)).toNat
                omega
    · obtain rfl : len = k := by omega
      have bx : wr.cell? ⟨w.heap.size, 0, none⟩ = some (.slice (some A) len cap) := cell_later Hbel.out box.out
      have hs := ((hp1.out.steps A rfl (len - 1) (by rw [hl.out]; omega)).later Hbel.out).c0
      rw [← HNL.out] at hs
      obtain ⟨j, hj⟩ : ∃ j, j = len - 1 := ⟨_, rfl⟩
      rw [← hj] at hs
      have ej : IntKind.i64.wrap ((len : Int) - 1) = (j : Int) := by have := hlen.out; rw [IntWalk.i64_in _ (by omega)]; omega
      have i0 : (0 : Int) ≤ (j : Int) := by omega
      have i1 : (j : Int) < (len : Int) := by omega
      have hfin := HR.out
      rw [List.drop_of_length_le (by rw [List.length_range]; omega)] at hfin
      have Hf := Lib.hid (show true = _ from hfin); clear hfin
      have HJ := Lib.hid hj; clear hj
      have tN : ((NL : Int) == (x : Int)) = (NL == x) := by rw [Bool.eq_iff_iff, beq_iff_eq, beq_iff_eq]; omega
      go_wp2_with fail
      go_ret
      refine ⟨?_, hb1.out.trans (Hbel.out.mono hb1.out.size)⟩
      rw [← Hf.out, ← tN]
      rfl
end Go.Proofs.YtpphfeinmmmckaaDoor
