/-
  The paper that Prove makes, in memory: its cells, and what a call of show may turn; the closure that asks what is done.
-/
import Derived.Test.YtpphfeinmmmckaaDoorPStep
namespace Go.Proofs.YtpphfeinmmmckaaDoor
open Go.RowKit

def stepCells (s : StepV) : List Value := [.int .u64 s.N, .int .u64 s.G, .slice s.qa s.Q.length s.qc, .slice s.ea s.E.length s.ec]

/-- A step whose rows are the call's own. -/
def StepOwn (B : Nat) (w : World) (s : StepV) : Prop :=
  ∃ fs, s.Q = fstL fs ∧ s.E = sndL fs ∧ OwnPair B w (.slice s.qa s.Q.length s.qc) (.slice s.ea s.E.length s.ec) fs ∧ s.N < 18446744073709551616 ∧ s.G < 18446744073709551616 ∧ ∀ x ∈ s.Q, x < 18446744073709551616

theorem StepOwn.later {B : Nat} {w w' : World} {s : StepV} (h : StepOwn B w s) (hb : Below w.heap.size w w') : StepOwn B w' s := by
  obtain ⟨fs, h1, h2, h3, r⟩ := h
  exact ⟨fs, h1, h2, h3.later hb, r⟩

structure ShowInv (h : Nat) (w : World) (v : Value) (l : List StepV) : Prop where
  out : w.cell? ⟨h, 0, none⟩ = some v
  outf : w.frozen? ⟨h, 0, none⟩ = false
  done : w.cell? ⟨h + 1, 0, none⟩ = some (.func (.func 35) #[] #[.pointer (some ⟨h, 0, none⟩)])
  show_ : w.cell? ⟨h + 2, 0, none⟩ = some (.func (.func 36) #[] #[.pointer (some ⟨h + 1, 0, none⟩), .pointer (some ⟨h + 2, 0, none⟩), .pointer (some ⟨h, 0, none⟩)])
  row : w.ownsRow (h + 3) 43 4 v l.length (l.flatMap stepCells)
  own : ∀ s ∈ l, StepOwn (h + 3) w s

theorem row_later4 {w w' : World} {B e size n : Nat} {v : Value} {xs : List Value} (h : w.ownsRow B e size v n xs) (hb : Below w.heap.size w w') : w'.ownsRow B e size v n xs := by
  refine ⟨h.1, ?_⟩
  rcases h.2 with h2 | ⟨g, cap, cur, hv, hg, hh, r⟩
  · exact .inl h2
  · exact .inr ⟨g, cap, cur, hv, hg, by rw [hb.block g (Array.getElem?_eq_some_iff.1 hh).1]; exact hh, r⟩

theorem ShowInv.later {h : Nat} {w w' : World} {v : Value} {l : List StepV} (H : ShowInv h w v l) (hb : Below w.heap.size w w') : ShowInv h w' v l where
  out := cell_later hb H.out
  outf := (hb.frozen (p := ⟨h, 0, none⟩) (World.block_lt_of_cell? _ _ H.out)).trans H.outf
  done := cell_later hb H.done
  show_ := cell_later hb H.show_
  row := row_later4 H.row hb
  own := fun s hs => (H.own s hs).later hb

theorem cells_at : ∀ (l : List StepV) (i r : Nat), i < l.length → r < 4 → (l.flatMap stepCells)[i * 4 + r]? = (stepCells (l.getD i default))[r]?
  | [], i, r, hi, _ => absurd hi (Nat.not_lt_zero _)
  | s :: l, 0, r, _, hr => by
    rw [List.flatMap_cons, Nat.zero_mul, Nat.zero_add, List.getElem?_append_left (by exact hr)]
    rfl
  | s :: l, i + 1, r, hi, hr => by
    have e : (i + 1) * 4 + r = (stepCells s).length + (i * 4 + r) := by show (i + 1) * 4 + r = 4 + (i * 4 + r); omega
    rw [List.flatMap_cons, e, List.getElem?_append_right (Nat.le_add_right _ _), Nat.add_sub_cancel_left, cells_at l i r (by simpa using hi) hr]
    rfl

theorem addr_add (g j : Nat) : (⟨g, 0, none⟩ : Addr).add j = ⟨g, j, none⟩ := by unfold Addr.add; split <;> simp_all

theorem ShowInv.paper {h : Nat} {w : World} {v : Value} {l : List StepV} (H : ShowInv h w v l) : ∃ a c, v = .slice a l.length c ∧ l.length ≤ c ∧ PaperAt w a l := by
  have hlen := row_len H.row
  have hcells := fun g hg => H.row.cells (g := g) hg
  rcases H.row.2 with ⟨rfl, h0⟩ | ⟨g, cap, cur, rfl, _, _, hcap, _⟩
  · have hnil : l = [] := List.eq_nil_of_length_eq_zero h0
    subst hnil
    exact ⟨none, 0, rfl, Nat.le_refl _, ⟨fun h => absurd h (by simp), by simp, fun b h => by cases h⟩⟩
  · refine ⟨_, cap, rfl, hcap, ⟨fun _ => ⟨_, rfl⟩, hlen, fun b hb i hi => ?_⟩⟩
    cases hb
    have hc : ∀ r u, r < 4 → (stepCells (l.getD i default))[r]? = some u → w.cell? ⟨g, i * 4 + r, none⟩ = some u := fun r u hr hu => by
      have := hcells g rfl (i * 4 + r) u ((cells_at l i r hi hr).trans hu)
      rwa [addr_add] at this
    have hmem : l.getD i default ∈ l := by
      have : l.getD i default = l[i] := by simp [List.getD, hi]
      rw [this]; exact List.getElem_mem hi
    obtain ⟨fs, hQ, hE, hown, hN, hG, hx⟩ := H.own _ hmem
    obtain ⟨a, c, a', c', e1, e2, hU, hI, _⟩ := pair_rows hown
    rw [addr_add]
    simp only [Value.slice.injEq] at e1 e2
    obtain ⟨ea, el, ec⟩ := e1
    obtain ⟨ea', el', ec'⟩ := e2
    exact ⟨hc 0 _ (by omega) rfl, hc 1 _ (by omega) rfl, hc 2 _ (by omega) rfl, hc 3 _ (by omega) rfl, by rw [ea, hQ]; exact hU, by rw [ea', hE]; exact hI,
      row_len hown.q |> fun h1 => by rw [el]; exact h1, row_len hown.e |> fun h1 => by rw [el']; exact h1, hN, hG, hx⟩

/-- What a call of show may turn: the paper's variable (block h), the paper's own block, and what is new. -/
structure Moved (h : Nat) (v v' : Value) (w w' : World) : Prop where
  os : w'.os = w.os
  tape : w'.tape = w.tape
  output : w'.output = w.output
  size : w.heap.size ≤ w'.heap.size
  block : ∀ k, k < w.heap.size → k ≠ h → v.ownBlock ≠ some k → w'.heap[k]? = w.heap[k]?
  lies : v'.ownBlock = v.ownBlock ∨ ∀ g, v'.ownBlock = some g → w.heap.size ≤ g

theorem Moved.of_below {h : Nat} {v : Value} {w w' : World} (hb : Below w.heap.size w w') : Moved h v v w w' :=
  ⟨hb.os, hb.tape, hb.output, hb.size, fun k hk _ _ => hb.block k hk, .inl rfl⟩

theorem Moved.trans {h : Nat} {v v1 v2 : Value} {w w1 w2 : World} (a : Moved h v v1 w w1) (b : Moved h v1 v2 w1 w2) : Moved h v v2 w w2 where
  os := b.os.trans a.os
  tape := b.tape.trans a.tape
  output := b.output.trans a.output
  size := Nat.le_trans a.size b.size
  block := fun k hk hkh hkv => by
    refine (b.block k (Nat.lt_of_lt_of_le hk a.size) hkh fun e => ?_).trans (a.block k hk hkh hkv)
    rcases a.lies with h1 | h1
    · exact hkv (h1 ▸ e)
    · have := h1 k e; omega
  lies := by
    rcases b.lies with h1 | h1
    · rcases a.lies with h2 | h2
      · exact .inl (h1.trans h2)
      · exact .inr fun g hg => h2 g (h1 ▸ hg)
    · exact .inr fun g hg => Nat.le_trans a.size (h1 g hg)

theorem Moved.cell {h : Nat} {v v' : Value} {w w' : World} (a : Moved h v v' w w') {p : Addr} {u : Value} (hc : w.cell? p = some u) (hh : p.block ≠ h) (hv : v.ownBlock ≠ some p.block) : w'.cell? p = some u :=
  (World.cell?_of_block (w := w) (a.block p.block (World.block_lt_of_cell? _ _ hc) hh hv)).trans hc

theorem Moved.below {h : Nat} {v v' : Value} {l : List StepV} {w w' : World} (H : ShowInv h w v l) (a : Moved h v v' w w') : Below h w w' := by
  refine ⟨a.os, a.tape, a.output, a.size, fun k hk => ?_⟩
  have h1 : h < w.heap.size := World.block_lt_of_cell? _ _ H.out
  refine a.block k (by omega) (by omega) fun e => ?_
  have := (H.row.lt k e).1
  omega

/-- A row of another element type, or of another block, outlives such a call. -/
theorem row_moved {h : Nat} {v v' : Value} {w w' : World} (a : Moved h v v' w w') {l : List StepV} (H : ShowInv h w v l) {B e size n : Nat} {u : Value} {xs : List Value} (hr : w.ownsRow B e size u n xs) (hne : e ≠ 43) (hB : h < B) : w'.ownsRow B e size u n xs := by
  refine ⟨hr.1, ?_⟩
  rcases hr.2 with h2 | ⟨g, cap, cur, hv, hg, hh, r⟩
  · exact .inl h2
  · refine .inr ⟨g, cap, cur, hv, hg, ?_, r⟩
    rw [a.block g (Array.getElem?_eq_some_iff.1 hh).1 (by omega) fun ev => ?_]
    · exact hh
    · rcases H.row.2 with ⟨rfl, _⟩ | ⟨g', cap', cur', rfl, _, hh', _⟩
      · simp [Value.ownBlock] at ev
      · simp only [Value.ownBlock, Option.some.injEq] at ev
        subst ev
        rw [hh] at hh'
        simp only [Option.some.injEq, Obj.cells.injEq] at hh'
        exact hne hh'.2.1

theorem own_moved {h : Nat} {v v' : Value} {w w' : World} (a : Moved h v v' w w') {l : List StepV} (H : ShowInv h w v l) {B : Nat} {x y : Value} {fs : List (Nat × Nat)} (hr : OwnPair B w x y fs) (hB : h < B) : OwnPair B w' x y fs :=
  ⟨row_moved a H hr.q (by decide) hB, row_moved a H hr.e (by decide) hB⟩

set_option maxRecDepth 100000 in
set_option maxHeartbeats 800000 in
theorem done_any (n len cap : Nat) (l : List StepV) (hl : Hid (l.length = len)) (hnl : Hid (n = len)) (p : Nat) (a : Option Addr) (h : Nat) (w : World) (hp : Hid (PaperAt w a l)) (hc : w.cell? ⟨h, 0, none⟩ = some (.slice a len cap)) (hcap : Hid (len ≤ cap)) :
    Calls Tryd.prog 35 #[.int .u64 p, .pointer (some ⟨h, 0, none⟩)] w fun e w' => e = .returned (.bool (((l.take n).any fun s => s.N == p) || p == 2)) ∧ Below w.heap.size w w' := by
  obtain rfl : n = len := hnl.out
  have hn : Hid (n ≤ n) := Lib.hid (Nat.le_refl _)
  go_enter Tryd.func35, Tryd.ntmps35
  go_wp2_with fail
  clear hc
  go_loopw [8] (fun t8 wr => ShownRel n l p ((l.take n).any fun s => s.N == p) w.heap.size w t8 wr) (fun t8 _ => n - (intOf t8).toNat)
  case atStart => exact ⟨0, rfl, Nat.zero_le _, Below.refl _ _, by rw [List.drop_zero]⟩
  case round =>
    obtain ⟨j, rfl, hj, hbel, hR⟩ := hrel
    have Hbel := Lib.hid hbel; clear hbel
    have HR := Lib.hid hR; clear hR
    by_cases hjn : j < n
    · obtain ⟨b, rfl⟩ := hp.out.at_ (by rw [hl.out]; have := hn.out; omega)
      have hs := (hp.out.steps b rfl j (by rw [hl.out]; have := hn.out; omega)).later Hbel.out
      have hst := any_drop hl.out hn.out hjn (fun s => s.N == p)
      obtain ⟨s, hss⟩ : ∃ s, s = l.getD j default := ⟨_, rfl⟩
      rw [← hss] at hs hst
      have c0 := hs.c0
      have c1 := hs.c1
      have c2 := hs.c2
      have c3 := hs.c3
      have Hs := Lib.hid hs; clear hs
      have hst2 := hst.symm.trans HR.out
      obtain ⟨N, hN⟩ : ∃ N, N = s.N := ⟨_, rfl⟩
      have hst3 : ((N == p) || ((l.take n).drop (j + 1)).any fun s => s.N == p) = ((l.take n).any fun s => s.N == p) := by rw [hN]; exact hst2
      rw [← hN] at c0
      obtain ⟨G, hG⟩ : ∃ G, G = s.G := ⟨_, rfl⟩
      rw [← hG] at c1
      obtain ⟨lq, hlq⟩ : ∃ z, z = s.Q.length := ⟨_, rfl⟩
      rw [← hlq] at c2
      obtain ⟨le, hle⟩ : ∃ z, z = s.E.length := ⟨_, rfl⟩
      rw [← hle] at c3
      have HX := Lib.hid (And.intro hss (And.intro hN (And.intro hG (And.intro hlq hle)))); clear hss hN hG hlq hle hst hst2
      have ek : wrap64 ((j : Int) + 1) = (j : Int) + 1 := by have := hn.out; have := hp.out.len; have := hl.out; rw [IntWalk.wrap64_in _ (by omega)]
      have tN : ((N : Int) == (p : Int)) = (N == p) := by rw [Bool.eq_iff_iff, beq_iff_eq, beq_iff_eq]; omega
      cases hb : (N == p) with
      | true =>
        rw [hb] at tN
        have HF := Lib.hid (show true = ((l.take n).any fun s => s.N == p) by rw [hb] at hst3; exact hst3); clear hst3 hb
        go_wp2_with fail
        go_ret
        exact ⟨by rw [← HF.out]; rfl, (Hbel.out.alloc Hbel.out.size _).mono (Nat.le_refl _)⟩
      | false =>
        rw [hb] at tN
        have HF := Lib.hid (show (((l.take n).drop (j + 1)).any fun s => s.N == p) = ((l.take n).any fun s => s.N == p) by rw [hb] at hst3; exact hst3); clear hst3 hb
        go_wp2_with fail
        go_roundw
        case rel => exact ⟨j + 1, by rw [ek]; rfl, by omega, Hbel.out.alloc Hbel.out.size _, HF.out⟩
        case measure =>
          rw [ek]
          show n - ((j : Int) + 1).toNat < n - ((j : Int)).toNat
          omega
    · obtain rfl : n = j := by omega
      have hfin := HR.out
      rw [List.drop_of_length_le (by rw [List.length_take]; omega)] at hfin
      have Hf := Lib.hid (show false = _ from hfin); clear hfin
      have tN : ((p : Int) == 2) = (p == 2) := by rw [Bool.eq_iff_iff, beq_iff_eq, beq_iff_eq]; omega
      go_wp2_with fail
      go_ret
      refine ⟨?_, Hbel.out⟩
      rw [← Hf.out, ← tN]
      rfl

theorem done_inv (p h : Nat) (w : World) (v : Value) (l : List StepV) (H : ShowInv h w v l) :
    Calls Tryd.prog 35 #[.int .u64 p, .pointer (some ⟨h, 0, none⟩)] w fun e w' => e = .returned (.bool (shownF l l.length p)) ∧ Below w.heap.size w w' := by
  obtain ⟨a, c, rfl, hc, hp⟩ := H.paper
  exact done_any l.length l.length c l (Lib.hid rfl) (Lib.hid rfl) p a h w (Lib.hid hp) H.out (Lib.hid hc)
end Go.Proofs.YtpphfeinmmmckaaDoor
