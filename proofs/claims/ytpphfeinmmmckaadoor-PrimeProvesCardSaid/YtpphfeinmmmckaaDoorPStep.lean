/-
  prime.step, at a prime above 2.
-/
import Derived.Test.YtpphfeinmmmckaaDoorPvTrue
import Derived.Lib.SmallJoins
import Derived.Deep.AppendLies
namespace Go.Proofs.YtpphfeinmmmckaaDoor
open Go.RowKit

theorem fst_len (l : List (Nat × Nat)) : (fstL l).length = l.length := List.length_map _
theorem snd_len (l : List (Nat × Nat)) : (sndL l).length = l.length := List.length_map _

theorem pair_rows {B : Nat} {w : World} {v2 v3 : Value} {l : List (Nat × Nat)} (h : OwnPair B w v2 v3 l) :
    ∃ a c a' c', v2 = .slice a l.length c ∧ v3 = .slice a' l.length c' ∧ U64s w a (fstL l) ∧ I64s w a' (sndL l) ∧ (∀ b, a = some b → 0 < l.length → B ≤ b.block ∧ b.block < w.heap.size) := by
  by_cases hl : 0 < l.length
  · obtain ⟨g, c, rfl, hb1, hg, hq⟩ := row_form h.q hl
    obtain ⟨g', c', rfl, _, hg', he⟩ := row_form h.e hl
    refine ⟨_, c, _, c', rfl, rfl, ⟨fun _ => ⟨_, rfl⟩, fun b hb j hj => ?_⟩, ⟨fun _ => ⟨_, rfl⟩, fun b hb j hj => ?_⟩, fun b hb _ => by cases hb; exact ⟨hb1, hg⟩⟩
    · cases hb
      rw [fst_len] at hj
      rw [show (⟨g, 0, none⟩ : Addr).add j = ⟨g, j, none⟩ by unfold Addr.add; split <;> simp_all]
      exact hq j _ (by simp [fstL, List.getD, hj])
    · cases hb
      rw [snd_len] at hj
      rw [show (⟨g', 0, none⟩ : Addr).add j = ⟨g', j, none⟩ by unfold Addr.add; split <;> simp_all]
      exact he j _ (by simp [sndL, List.getD, hj])
  · have hnil : l = [] := List.eq_nil_of_length_eq_zero (by omega)
    subst hnil
    obtain ⟨a, c, rfl⟩ := row_form0 h.q
    obtain ⟨a', c', rfl⟩ := row_form0 h.e
    exact ⟨a, c, a', c', rfl, rfl, ⟨fun h => absurd h (by simp [fstL]), fun b _ j hj => absurd hj (by simp [fstL])⟩, ⟨fun h => absurd h (by simp [sndL]), fun b _ j hj => absurd hj (by simp [sndL])⟩, fun b _ h => absurd h (by simp)⟩

theorem row_later {w w' : World} {B e n : Nat} {v : Value} {xs : List Value} (h : w.ownsRow B e 1 v n xs) (hb : Below w.heap.size w w') : w'.ownsRow B e 1 v n xs := by
  refine ⟨h.1, ?_⟩
  rcases h.2 with h2 | ⟨g, cap, cur, hv, hg, hh, r⟩
  · exact .inl h2
  · exact .inr ⟨g, cap, cur, hv, hg, by rw [hb.block g (Array.getElem?_eq_some_iff.1 hh).1]; exact hh, r⟩

theorem OwnPair.later {B : Nat} {w w' : World} {v2 v3 : Value} {l : List (Nat × Nat)} (h : OwnPair B w v2 v3 l) (hb : Below w.heap.size w w') : OwnPair B w' v2 v3 l :=
  ⟨row_later h.q hb, row_later h.e hb⟩

theorem row_mono {w : World} {B B' e size n : Nat} {v : Value} {xs : List Value} (h : w.ownsRow B e size v n xs) (hb : B' ≤ B) : w.ownsRow B' e size v n xs :=
  ⟨h.1, h.2.imp id fun ⟨g, cap, cur, hv, hg, r⟩ => ⟨g, cap, cur, hv, Nat.le_trans hb hg, r⟩⟩

theorem row_len {w : World} {B e size n : Nat} {v : Value} {xs : List Value} (h : w.ownsRow B e size v n xs) : n ≤ 9223372036854775807 := by
  rcases h.2 with ⟨_, h0⟩ | ⟨g, cap, cur, _, _, _, h3, h4, _⟩
  · omega
  · unfold maxLen at h4; omega

theorem OwnPair.mono {B B' : Nat} {w : World} {v2 v3 : Value} {l : List (Nat × Nat)} (h : OwnPair B w v2 v3 l) (hb : B' ≤ B) : OwnPair B' w v2 v3 l :=
  ⟨row_mono h.q hb, row_mono h.e hb⟩

theorem OwnPair.setCell_below {B : Nat} {w : World} {v2 v3 : Value} {l : List (Nat × Nat)} (h : OwnPair B w v2 v3 l) {a : Addr} (ha : a.block < B) (u : Value) : OwnPair B (w.setCell a u) v2 v3 l :=
  ⟨ownsRow_setCell_below h.q ha u, ownsRow_setCell_below h.e ha u⟩

def SRel (p g0 H : Nat) (x y : Value) (w2 : World) (g : Nat) (wr : World) : Prop :=
  ∃ G : Nat, 2 ≤ G ∧ G + g = g0 ∧ Below H w2 wr ∧ H < wr.heap.size ∧
    wr.cell? ⟨H, 0, none⟩ = some (.int .u64 p) ∧ wr.cell? ⟨H, 1, none⟩ = some (.int .u64 G) ∧ wr.cell? ⟨H, 2, none⟩ = some x ∧ wr.cell? ⟨H, 3, none⟩ = some y ∧ wr.frozen? ⟨H, 1, none⟩ = false

/-- What step hands back. -/
def StepPost (p : Nat) (w : World) (e : Ending) (w' : World) : Prop :=
  ∃ (G : Nat) (v2 v3 : Value), e = .returned (.agg #[.int .u64 p, .int .u64 G, v2, v3]) ∧ (2 ≤ G ∧ G < p ∧ GoodG p G = true) ∧ OwnPair w.heap.size w' v2 v3 (facs (p - 1)) ∧ Below w.heap.size w w'

set_option maxRecDepth 100000 in
set_option maxHeartbeats 800000 in
theorem pstep_any (p : Nat) (w : World) (hp : Hid (Nt.Prime p)) (h3 : Hid (3 ≤ p ∧ p ≤ 1099511627776)) :
    Calls Tryd.prog 37 #[.int .u64 p] w (StepPost p w) := by
  obtain ⟨g0, hg1, hg2, hg3⟩ := good_exists hp.out h3.out.1 h3.out.2
  have Hg := Lib.hid (And.intro hg1 (And.intro hg2 hg3)); clear hg1 hg2 hg3
  obtain ⟨l, hl⟩ : ∃ l, l = facs (p - 1) := ⟨_, rfl⟩
  obtain ⟨M, hM⟩ : ∃ M, M = p - 1 := ⟨_, rfl⟩
  have eM : IntKind.u64.wrap ((p : Int) - 1) = (M : Int) := by have := h3.out; rw [IntWalk.u64_in _ (by omega)]; omega
  have hMb : Hid (1 ≤ M ∧ M ≤ 1099511627776) := Lib.hid (by have := h3.out; omega)
  have c19 : Hid (∀ W, Calls Tryd.prog 19 #[.int .u64 M] W fun e w' => ∃ v2 v3, e = .returned (.tuple #[v2, v3, .int .i64 0]) ∧ OwnPair W.heap.size w' v2 v3 l ∧ Below W.heap.size W w') := Lib.hid fun W => by
    rw [hl, ← hM]
    exact factor_in M W (decide_eq_false (by have := hMb.out; omega)) (decide_eq_false (by have := hMb.out; omega)) hMb
  have Hl := Lib.hid (And.intro hl hM); clear hl hM
  obtain ⟨w0, hw0⟩ : ∃ w0, w0 = w.alloc (.cells #[.int .u64 0, .int .u64 0, .slice none 0 0, .slice none 0 0] 43) := ⟨_, rfl⟩
  have hs0 : Hid (w0.heap.size = w.heap.size + 1) := Lib.hid (by rw [hw0]; show (w.heap.push _).size = _; rw [Array.size_push])
  have hb0 : Hid (Below w.heap.size w w0) := Lib.hid (by rw [hw0]; exact (Below.refl _ _).alloc (Nat.le_refl _) _)
  have hr0 : Hid ((w0.cell? ⟨w.heap.size, 0, none⟩).isSome = true ∧ (w0.cell? ⟨w.heap.size, 1, none⟩).isSome = true ∧ (w0.cell? ⟨w.heap.size, 2, none⟩).isSome = true ∧ (w0.cell? ⟨w.heap.size, 3, none⟩).isSome = true ∧ ∀ j, w0.frozen? ⟨w.heap.size, j, none⟩ = false) := Lib.hid (by
    rw [hw0]
    refine ⟨?_, ?_, ?_, ?_, fun j => by simp [go_sem]⟩
    all_goals rw [World.cell?_alloc_at _ _ _ _ rfl]; rfl)
  go_enter Tryd.func37, Tryd.ntmps37
  go_wp2_with fail
  rw [← hw0]
  have Hw0 := Lib.hid hw0; clear hw0
  refine (c19.out _).mono ?_
  rintro e w2 ⟨v2, v3, rfl, hown, hb⟩
  obtain ⟨a, c, a', c', rfl, rfl, hU, _, _⟩ := pair_rows hown
  have Hown := Lib.hid hown; clear hown
  have Hb := Lib.hid hb; clear hb
  have HU := Lib.hid hU; clear hU
  obtain ⟨n, hn⟩ : ∃ n, n = l.length := ⟨_, rfl⟩
  rw [← hn]
  have Hn := Lib.hid hn; clear hn
  obtain ⟨w3, hw3⟩ : ∃ w3, w3 = w2.alloc (.cells #[.int .u64 p, .int .u64 2, .slice a n c, .slice a' n c'] 43) := ⟨_, rfl⟩
  go_wp2_with fail
  rw [← hw3]
  have hM0 : Hid (∀ q ∈ fstL l, 1 ≤ q ∧ q < 18446744073709551616) := Lib.hid fun q hq => by
    obtain ⟨x, hx, rfl⟩ := List.mem_map.1 hq
    rw [Hl.out.1, ← Hl.out.2] at hx
    obtain ⟨h1, _, _, _, hd⟩ := (facs_prod hMb.out.1 hMb.out.2).2 x hx
    have := Nat.le_of_dvd (by have := hMb.out; omega) hd
    have := hMb.out
    omega
  have hnb : Hid (n ≤ 9223372036854775807) := Lib.hid (by rw [Hn.out]; exact row_len Hown.out.q)
  have hlen : Hid ((fstL l).length = n) := Lib.hid (by rw [fst_len, Hn.out])
  obtain ⟨H, hH⟩ : ∃ H, H = w2.heap.size := ⟨_, rfl⟩
  have HH := Lib.hid hH
  have hz : Hid (SRel p g0 H (.slice a n c) (.slice a' n c') w2 (g0 - 2) w3) := Lib.hid (by
    refine ⟨2, Nat.le_refl _, by have := Hg.out; omega, ?_, ?_, ?_, ?_, ?_, ?_, ?_⟩
    · rw [hw3, hH]; exact (Below.refl _ _).alloc (Nat.le_refl _) _
    · rw [hw3, hH]; show w2.heap.size < (w2.heap.push _).size; rw [Array.size_push]; omega
    · rw [hw3, hH]; exact World.cell?_alloc_at _ _ _ _ rfl
    · rw [hw3, hH]; exact World.cell?_alloc_at _ _ _ _ rfl
    · rw [hw3, hH]; exact World.cell?_alloc_at _ _ _ _ rfl
    · rw [hw3, hH]; exact World.cell?_alloc_at _ _ _ _ rfl
    · rw [hw3, hH]; simp [go_sem])
  rw [← hH]
  have Hw3 := Lib.hid (And.intro hw3 hH); clear hw3 hH
  go_loopg [20] (g0 - 2) (fun g _ wr => SRel p g0 H (.slice a n c) (.slice a' n c') w2 g wr)
  case atStart => exact hz.out
  case round =>
    obtain ⟨G, hG2, hGg, hbel, hsz, z0, z1, z2, z3, zf⟩ := hrel
    have Hbel := Lib.hid hbel; clear hbel
    have HG := Lib.hid (And.intro hG2 hGg); clear hG2 hGg
    have c33 : Hid (Calls Tryd.prog 33 #[.agg #[.int .u64 p, .int .u64 G, .slice a n c, .slice a' n c']] wr fun e w' => e = .returned (.bool (GoodG p G)) ∧ Below wr.heap.size wr w') := Lib.hid (by
      have := order_any n (fstL l) hlen hnb p G M (Lib.hid ⟨by have := h3.out; omega, by have := h3.out; omega, by have := hMb.out; omega⟩) eM a a' n c c' wr (Lib.hid (HU.out.later (by rw [← HH.out]; exact Hbel.out))) hM0
      rw [GoodG, ← Hl.out.1, ← Hl.out.2]
      exact this)
    obtain ⟨R, hR⟩ : ∃ R, R = GoodG p G := ⟨_, rfl⟩
    rw [← hR] at c33
    have HR := Lib.hid hR; clear hR
    have eMH := Lib.hid eM; clear eM
    go_wp2_with fail
    refine c33.out.mono ?_
    rintro e w4 ⟨rfl, hb4⟩
    have y0 := cell_later hb4 z0
    have y1 := cell_later hb4 z1
    have y2 := cell_later hb4 z2
    have y3 := cell_later hb4 z3
    have yf : w4.frozen? ⟨H, 1, none⟩ = false := (hb4.frozen (p := ⟨H, 1, none⟩) hsz).trans zf
    have Hb4 := Lib.hid hb4; clear hb4
    clear z0 z1 z2 z3 zf
    cases hRc : R with
    | true =>
      have HG2 : Hid (GoodG p G = true) := Lib.hid (by rw [← HR.out, hRc])
      have hb04 : Hid (Below w0.heap.size w0 w4) := Lib.hid (Hb.out.trans ((Hbel.out.trans (Hb4.out.mono (by omega))).mono (by rw [HH.out]; exact Hb.out.size)))
      have hin : ∀ j, w4.cell? ⟨w.heap.size, j, none⟩ = w0.cell? ⟨w.heap.size, j, none⟩ := fun j => hb04.out.cell (p := ⟨w.heap.size, j, none⟩) (by rw [hs0.out]; exact Nat.lt_succ_self _)
      have hfr : ∀ j, w4.frozen? ⟨w.heap.size, j, none⟩ = false := fun j => (hb04.out.frozen (p := ⟨w.heap.size, j, none⟩) (by rw [hs0.out]; exact Nat.lt_succ_self _)).trans (hr0.out.2.2.2.2 j)
      obtain ⟨u0, x0⟩ := Option.isSome_iff_exists.1 ((congrArg Option.isSome (hin 0)).trans hr0.out.1)
      obtain ⟨u1, x1⟩ := Option.isSome_iff_exists.1 ((congrArg Option.isSome (hin 1)).trans hr0.out.2.1)
      obtain ⟨u2, x2⟩ := Option.isSome_iff_exists.1 ((congrArg Option.isSome (hin 2)).trans hr0.out.2.2.1)
      obtain ⟨u3, x3⟩ := Option.isSome_iff_exists.1 ((congrArg Option.isSome (hin 3)).trans hr0.out.2.2.2.1)
      have f0 := hfr 0
      have f1 := hfr 1
      have f2 := hfr 2
      have f3 := hfr 3
      clear hin hfr
      go_wp2_with fail
      have ho4 : OwnPair w0.heap.size w4 (.slice a n c) (.slice a' n c') l := by
        rw [Hn.out]
        exact Hown.out.later (by rw [← HH.out]; exact Hbel.out.trans (Hb4.out.mono (by omega)))
      have hlt : w.heap.size < w0.heap.size := by rw [hs0.out]; exact Nat.lt_succ_self _
      refine bodyPost_ret (v := .agg #[.int .u64 p, .int .u64 G, .slice a n c, .slice a' n c']) (by simp [results, Tryd.results37, go_sem, x0, x1, x2, x3]) rfl ⟨G, _, _, rfl, ⟨HG.out.1, by have := HG.out.2; have := Hg.out; omega, HG2.out⟩, ?_, ?_⟩
      · rw [← Hl.out.1]
        exact ((((ho4.setCell_below hlt _).setCell_below hlt _).setCell_below hlt _).setCell_below hlt _).mono (Nat.le_of_lt hlt)
      · exact ((((hb0.out.trans (hb04.out.mono (Nat.le_of_lt hlt))).setCell (Nat.le_refl _) _).setCell (Nat.le_refl _) _).setCell (Nat.le_refl _) _).setCell (Nat.le_refl _) _
    | false =>
      have hgk : 1 ≤ gk := by
        rcases Nat.eq_zero_or_pos gk with h0 | h0
        · exfalso
          have h1 := HR.out
          rw [hRc, show G = g0 by have := HG.out.2; omega, Hg.out.2.2] at h1
          cases h1
        · exact h0
      have hs4 : Hid (H < w4.heap.size) := Lib.hid (Nat.lt_of_lt_of_le hsz Hb4.out.size)
      have eG : IntKind.u64.wrap ((G : Int) + 1) = ((G + 1 : Nat) : Int) := by have := HG.out; have := Hg.out; have := h3.out; rw [IntWalk.u64_in _ (by omega)]; rfl
      go_wp2_with fail
      go_roundg (gk - 1)
      case rel =>
        refine ⟨G + 1, by have := HG.out; omega, by have := HG.out.2; omega, (Hbel.out.trans (Hb4.out.mono (by omega))).setCell (Nat.le_refl _) _, ?_, ?_, ?_, ?_, ?_, ?_⟩
        · show H < (w4.heap.modify _ _).size
          rw [Array.size_modify]; exact hs4.out
        · exact (World.cell?_setCell_other _ _ _ _ (by simp)).trans y0
        · exact World.cell?_setCell_same _ _ _ y1
        · exact (World.cell?_setCell_other _ _ _ _ (by simp)).trans y2
        · exact (World.cell?_setCell_other _ _ _ _ (by simp)).trans y3
        · exact (World.frozen?_setCell _ _ _ _).trans yf
      case measure => omega
end Go.Proofs.YtpphfeinmmmckaaDoor
