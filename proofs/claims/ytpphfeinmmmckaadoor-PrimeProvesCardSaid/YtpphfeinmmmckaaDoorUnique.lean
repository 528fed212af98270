/-
  PrimeUnique: the walk of often, and the law's.
-/
import Derived.Test.YtpphfeinmmmckaaDoorFactors
import Derived.Test.YtpphfeinmmmckaaDoorFacTrue
import Derived.Test.YtpphfeinmmmckaaDoorMrTrue
import Derived.Test.YtpphfeinmmmckaaDoorClass
import Derived.Deep.RegionWith
namespace Go.Proofs.YtpphfeinmmmckaaDoor
open Go.RowKit

/-- The cells of two slices hold a list. -/
structure ListAt (w : World) (a a' : Option Addr) (l : List (Nat × Nat)) (g g' : Nat) : Prop where
  at1 : 0 < l.length → a = some ⟨g, 0, none⟩
  at2 : 0 < l.length → a' = some ⟨g', 0, none⟩
  q : CellsAre w g l.length .u64 (fun j => (l.getD j (0, 0)).1)
  e : CellsAre w g' l.length .i64 (fun j => (l.getD j (0, 0)).2)
  lt1 : 0 < l.length → g < w.heap.size
  lt2 : 0 < l.length → g' < w.heap.size

theorem ListAt.later {w w' : World} {a a' : Option Addr} {l : List (Nat × Nat)} {g g' : Nat} (h : ListAt w a a' l g g') (hb : Below w.heap.size w w') : ListAt w' a a' l g g' where
  at1 := h.at1
  at2 := h.at2
  q := fun j hj => (hb.cell (p := ⟨g, j, none⟩) (h.lt1 (by omega))).trans (h.q j hj)
  e := fun j hj => (hb.cell (p := ⟨g', j, none⟩) (h.lt2 (by omega))).trans (h.e j hj)
  lt1 := fun h0 => Nat.lt_of_lt_of_le (h.lt1 h0) hb.size
  lt2 := fun h0 => Nat.lt_of_lt_of_le (h.lt2 h0) hb.size

theorem pair_listAt {B : Nat} {w : World} {v2 v3 : Value} {l : List (Nat × Nat)} (h : OwnPair B w v2 v3 l) : ∃ a c a' c' g g', v2 = .slice a l.length c ∧ v3 = .slice a' l.length c' ∧ ListAt w a a' l g g' := by
  by_cases hl : 0 < l.length
  · obtain ⟨g, c, g', c', rfl, rfl, h1, h2, h3, h4⟩ := pair_cells h hl
    exact ⟨_, c, _, c', g, g', rfl, rfl, ⟨fun _ => rfl, fun _ => rfl, h1, h2, fun _ => h3, fun _ => h4⟩⟩
  · have hnil : l = [] := List.eq_nil_of_length_eq_zero (by omega)
    subst hnil
    obtain ⟨a, c, rfl⟩ := row_form0 h.q
    obtain ⟨a', c', rfl⟩ := row_form0 h.e
    exact ⟨a, c, a', c', 0, 0, rfl, rfl, ⟨fun h => absurd h (by simp), fun h => absurd h (by simp), fun j hj => absurd hj (by simp), fun j hj => absurd hj (by simp), fun h => absurd h (by simp), fun h => absurd h (by simp)⟩⟩

def OftenRel (l : List (Nat × Nat)) (p : Nat) (t7 t8 : Value) : Prop := ∃ k : Nat, t7 = .int .i64 ((oftenL (l.take k) p : Nat) : Int) ∧ t8 = .int .i64 k ∧ k ≤ l.length

set_option maxRecDepth 100000 in
set_option maxHeartbeats 400000 in
theorem often_core (n : Nat) (l : List (Nat × Nat)) (hl : Hid (l.length = n)) (hn : Hid (n ≤ 1048577)) (h64 : Hid (∀ x ∈ l, x.2 ≤ 64)) (p : Nat) (a a' : Option Addr) (c c' g g' : Nat) (w : World) (h : Hid (ListAt w a a' l g g')) :
    Calls Tryd.prog 21 #[.slice a n c, .slice a' n c', .int .u64 p] w fun e w' => e = .returned (.int .i64 ((oftenL l p : Nat) : Int)) ∧ w = w' := by
  go_enter Tryd.func21, Tryd.ntmps21
  go_wp2_with fail
  go_loop [7, 8] (fun t7 t8 => OftenRel l p t7 t8) (fun _ t8 => n - (intOf t8).toNat)
  case atStart => exact ⟨0, rfl, rfl, Nat.zero_le _⟩
  case round =>
    obtain ⟨k, rfl, rfl, hk⟩ := hrel
    rw [hl.out] at hk
    have hnn := hn.out
    by_cases hkn : k < n
    · obtain rfl : a = some ⟨g, 0, none⟩ := h.out.at1 (by rw [hl.out]; omega)
      obtain rfl : a' = some ⟨g', 0, none⟩ := h.out.at2 (by rw [hl.out]; omega)
      have q1 : w.cell? ⟨g, k, none⟩ = some (.int .u64 (((l.getD k (0, 0)).1 : Nat) : Int)) := h.out.q k (by rw [hl.out]; exact hkn)
      have e1 : w.cell? ⟨g', k, none⟩ = some (.int .i64 (((l.getD k (0, 0)).2 : Nat) : Int)) := h.out.e k (by rw [hl.out]; exact hkn)
      have hst := often_take l p k (by rw [hl.out]; exact hkn)
      have hle := often_le (l.take k) p fun x hx => h64.out x (List.mem_of_mem_take hx)
      have hx64 : (l.getD k (0, 0)).2 ≤ 64 := by
        have hkl : k < l.length := by rw [hl.out]; exact hkn
        have : l.getD k (0, 0) = l[k] := by simp [List.getD, hkl]
        rw [this]; exact h64.out _ (List.getElem_mem hkl)
      have hlt : (l.take k).length ≤ k := List.length_take_le _ _
      obtain ⟨s, hs⟩ : ∃ s, s = oftenL (l.take k) p := ⟨_, rfl⟩
      obtain ⟨q, hq⟩ : ∃ q, q = (l.getD k (0, 0)).1 := ⟨_, rfl⟩
      obtain ⟨e, he⟩ : ∃ e, e = (l.getD k (0, 0)).2 := ⟨_, rfl⟩
      rw [← hs] at hst hle
      rw [← hq] at q1 hst
      rw [← he] at e1 hst hx64
      rw [← hs]
      have es : IntKind.i64.wrap ((s : Int) + (e : Int)) = (s : Int) + (e : Int) := by
        have := hn.out
        exact IntWalk.i64_in _ (by omega)
      have Hst := Lib.hid hst; clear hst
      have Hs := Lib.hid (And.intro hs (And.intro hq he)); clear hs hq he
      have Hle := Lib.hid (And.intro hle (And.intro hx64 hlt)); clear hle hx64 hlt
      by_cases hqp : q = p
      · have t1 : ((q : Int) == (p : Int)) = true := by rw [beq_iff_eq]; omega
        have Hqp := Lib.hid hqp; clear hqp
        go_wp2_with fail
        go_round
        case rel => exact ⟨k + 1, by rw [Hst.out, if_pos Hqp.out]; go_num, by go_num, by rw [hl.out]; omega⟩
        case measure => simp [intOf]; omega
      · have t1 : ((q : Int) == (p : Int)) = false := by rw [beq_eq_false_iff_ne]; omega
        have Hqp := Lib.hid hqp; clear hqp
        go_wp2_with fail
        go_round
        case rel => exact ⟨k + 1, by rw [Hst.out, if_neg Hqp.out]; go_num, by go_num, by rw [hl.out]; omega⟩
        case measure => simp [intOf]; omega
    · obtain rfl : k = n := by omega
      go_wp2_with fail
      go_ret
      refine ⟨?_, rfl⟩
      show Ending.returned (.int .i64 ((oftenL (l.take k) p : Nat) : Int)) = _
      rw [List.take_of_length_le (by rw [hl.out]; omega)]

def UniqRel (n : Nat) (w : World) (t : Value) (wr : World) : Prop := ∃ k : Nat, t = .int .i64 k ∧ k ≤ n ∧ Below w.heap.size w wr

set_option maxRecDepth 100000 in
set_option maxHeartbeats 4000000 in
theorem unique_loop1 (A B x y n n1 n2 : Nat) (l l1 l2 : List (Nat × Nat)) (w : World) (hT : Hid (TabAt w)) (hn : Hid (l.length = n)) (hn1 : Hid (l1.length = n1)) (hn2 : Hid (l2.length = n2)) (bn : (n : Int) ≤ 1048577) (bn1 : (n1 : Int) ≤ 1048577) (bn2 : (n2 : Int) ≤ 1048577)
    (eA : IntKind.u64.wrap (A : Int) = (A : Int)) (eB : IntKind.u64.wrap (B : Int) = (B : Int)) (ex : (A : Int) % 1048576 + 1 = (x : Int)) (ey : (B : Int) % 1048576 + 1 = (y : Int)) (ex' : IntKind.u64.wrap (x : Int) = (x : Int)) (ey' : IntKind.u64.wrap (y : Int) = (y : Int)) (h64 : Hid ((∀ x ∈ l1, x.2 ≤ 64) ∧ (∀ x ∈ l2, x.2 ≤ 64))) (h64l : Hid (∀ x ∈ l, x.2 ≤ 64)) (Hall1 : Hid (∀ k, k < l1.length → 1 ≤ (l1.getD k (0, 0)).2 ∧ (l1.getD k (0, 0)).2 ≤ oftenL l (l1.getD k (0, 0)).1)) (Hall2 : Hid (∀ k, k < l2.length → 1 ≤ (l2.getD k (0, 0)).2 ∧ (l2.getD k (0, 0)).2 ≤ oftenL l (l2.getD k (0, 0)).1)) (Hall : Hid (∀ k, k < l.length → mrIs (l.getD k (0, 0)).1 = true ∧ 1 ≤ (l.getD k (0, 0)).2 ∧ (l.getD k (0, 0)).2 = oftenL l1 (l.getD k (0, 0)).1 + oftenL l2 (l.getD k (0, 0)).1 ∧ (l.getD k (0, 0)).2 ≤ 64 ∧ (1 ≤ k → (l.getD (k - 1) (0, 0)).1 < (l.getD k (0, 0)).1))) (xy : Nat) (exy : IntKind.u64.wrap ((x : Int) * (y : Int)) = (xy : Int))
    (c19 : Hid (∀ w, Calls Tryd.prog 19 #[.int .u64 xy] w fun e w' => ∃ a c a' c' g g', e = .returned (.tuple #[.slice a n c, .slice a' n c', .int .i64 0]) ∧ ListAt w' a a' l g g' ∧ Below w.heap.size w w'))
    (c19x : Hid (∀ w, Calls Tryd.prog 19 #[.int .u64 x] w fun e w' => ∃ a c a' c' g g', e = .returned (.tuple #[.slice a n1 c, .slice a' n1 c', .int .i64 0]) ∧ ListAt w' a a' l1 g g' ∧ Below w.heap.size w w'))
    (c19y : Hid (∀ w, Calls Tryd.prog 19 #[.int .u64 y] w fun e w' => ∃ a c a' c' g g', e = .returned (.tuple #[.slice a n2 c, .slice a' n2 c', .int .i64 0]) ∧ ListAt w' a a' l2 g g' ∧ Below w.heap.size w w')) :
    Calls Tryd.prog 8 #[.int .u32 A, .int .u32 B] w fun e w' => e = .returned (.bool true) ∧ Below w.heap.size w w' := by
  have c13 := Lib.hid (alive_any w hT)
  go_enter Tryd.func8, Tryd.ntmps8
  go_wp2_with fail
  refine c13.out.mono ?_
  rintro e w1 ⟨rfl, hb⟩
  have Hb := Lib.hid hb; clear hb
  go_wp2_with fail
  refine (c19.out _).mono ?_
  rintro e w2 ⟨a, c, a', c', g, g', rfl, hl, hb2⟩
  have Hl := Lib.hid hl; clear hl
  have Hb2 := Lib.hid hb2; clear hb2
  go_wp2_with fail
  refine (c19x.out _).mono ?_
  rintro e w3 ⟨a1, c1, a1', c1', g1, g1', rfl, hl1, hb3⟩
  have Hl1 := Lib.hid hl1; clear hl1
  have Hb3 := Lib.hid hb3; clear hb3
  go_wp2_with fail
  refine (c19y.out _).mono ?_
  rintro e w4 ⟨a2, c2, a2', c2', g2, g2', rfl, hl2, hb4⟩
  have Hl2 := Lib.hid hl2; clear hl2
  have Hl1' := Lib.hid (Hl1.out.later hb4)
  have Hl' := Lib.hid ((Hl.out.later Hb3.out).later hb4)
  have Hb' := Lib.hid (((Hb.out.trans (Hb2.out.mono Hb.out.size)).trans (Hb3.out.mono (Nat.le_trans Hb.out.size Hb2.out.size))).trans (hb4.mono (Nat.le_trans (Nat.le_trans Hb.out.size Hb2.out.size) Hb3.out.size)))
  have HT4 := Lib.hid (tab_below hT.out Hb'.out)
  clear Hl1 Hl Hb Hb2 Hb3 hb4 c19 c19x c19y c13 ex ey exy eA eB ex' ey'
  go_wp2_with fail
  go_loopw [16] (fun t16 wr => UniqRel n w4 t16 wr) (fun t16 _ => n - (intOf t16).toNat)
  case atStart => exact ⟨0, rfl, Nat.zero_le _, Below.refl _ _⟩
  case round =>
    obtain ⟨k, rfl, hk, hbk⟩ := hrel
    have Hbk := Lib.hid hbk; clear hbk
    by_cases hkn : k < n
    · obtain rfl : a = some ⟨g, 0, none⟩ := Hl'.out.at1 (by rw [hn.out]; omega)
      obtain rfl : a' = some ⟨g', 0, none⟩ := Hl'.out.at2 (by rw [hn.out]; omega)
      have Hlr := Lib.hid (Hl'.out.later Hbk.out)
      have q1 : wr.cell? ⟨g, k, none⟩ = some (.int .u64 (((l.getD k (0, 0)).1 : Nat) : Int)) := Hlr.out.q k (by rw [hn.out]; exact hkn)
      have e1 : wr.cell? ⟨g', k, none⟩ = some (.int .i64 (((l.getD k (0, 0)).2 : Nat) : Int)) := Hlr.out.e k (by rw [hn.out]; exact hkn)
      obtain ⟨P, hP⟩ : ∃ q, q = (l.getD k (0, 0)).1 := ⟨_, rfl⟩
      obtain ⟨D, hD⟩ : ∃ q, q = (l.getD k (0, 0)).2 := ⟨_, rfl⟩
      rw [← hP] at q1
      rw [← hD] at e1
      obtain ⟨o1, ho1⟩ : ∃ o, o = oftenL l1 P := ⟨_, rfl⟩
      obtain ⟨o2, ho2⟩ : ∃ o, o = oftenL l2 P := ⟨_, rfl⟩
      have Hk := Hall.out k (by rw [hn.out]; exact hkn)
      rw [← hP, ← hD, ← ho1, ← ho2] at Hk
      have c14 : Hid (∀ W, Below w4.heap.size w4 W → Calls Tryd.prog 14 #[.int .u64 P] W fun e w' => e = .returned (.bool true) ∧ Below W.heap.size W w') := Lib.hid fun W hW => by
        have := is_any P W (tab_below HT4.out hW)
        rw [Hk.1] at this
        exact this
      have cf1 : Hid (∀ W, Below w4.heap.size w4 W → Calls Tryd.prog 21 #[.slice a1 n1 c1, .slice a1' n1 c1', .int .u64 P] W fun e w' => e = .returned (.int .i64 (o1 : Int)) ∧ W = w') := Lib.hid fun W hW => by
        rw [ho1]; exact often_core n1 l1 hn1 (Lib.hid (by omega)) (Lib.hid h64.out.1) P a1 a1' c1 c1' g1 g1' W (Lib.hid (Hl1'.out.later hW))
      have cf2 : Hid (∀ W, Below w4.heap.size w4 W → Calls Tryd.prog 21 #[.slice a2 n2 c2, .slice a2' n2 c2', .int .u64 P] W fun e w' => e = .returned (.int .i64 (o2 : Int)) ∧ W = w') := Lib.hid fun W hW => by
        rw [ho2]; exact often_core n2 l2 hn2 (Lib.hid (by omega)) (Lib.hid h64.out.2) P a2 a2' c2 c2' g2 g2' W (Lib.hid (Hl2.out.later hW))
      have hsum : IntKind.i64.wrap ((o1 : Int) + (o2 : Int)) = (D : Int) := by rw [IntWalk.i64_in _ (by have := Hk.2.2.2.1; omega)]; have := Hk.2.2.1; omega
      have hD1 : decide ((D : Int) < 1) = false := decide_eq_false (by have := Hk.2.1; omega)
      have hlg := Hlr.out.lt1 (by rw [hn.out]; omega)
      have hlg' := Hlr.out.lt2 (by rw [hn.out]; omega)
      have hb0 := Hbk.out
      have HH := Lib.hid (And.intro hP (And.intro hD (And.intro ho1 ho2))); clear hP hD ho1 ho2
      have HK := Lib.hid Hk; clear Hk
      have i0' : (0 : Int) ≤ (k : Int) := Int.natCast_nonneg _
      have i1 : (k : Int) < (n : Int) := by omega
      have hcq : ∀ u : Within (Below wr.heap.size wr), u.val.cell? ⟨g, k, none⟩ = some (.int .u64 P) := fun u => (u.ok.cell (World.block_lt_of_cell? _ _ q1)).trans q1
      have hce : ∀ u : Within (Below wr.heap.size wr), u.val.cell? ⟨g', k, none⟩ = some (.int .i64 D) := fun u => (u.ok.cell (World.block_lt_of_cell? _ _ e1)).trans e1
      have C14 : Hid (∀ u : Within (Below wr.heap.size wr), Calls Tryd.prog 14 #[.int .u64 P] u.val fun e w'' => e = .returned (.bool true) ∧ ∃ u' : Within (Below wr.heap.size wr), w'' = u'.val) :=
        Lib.hid fun u => class_call (c14.out u.val (hb0.trans (u.ok.mono hb0.size))) fun w' hw => u.ok.trans (hw.mono u.ok.size)
      have CF1 : Hid (∀ u : Within (Below wr.heap.size wr), Calls Tryd.prog 21 #[.slice a1 n1 c1, .slice a1' n1 c1', .int .u64 P] u.val fun e w'' => e = .returned (.int .i64 (o1 : Int)) ∧ ∃ u' : Within (Below wr.heap.size wr), w'' = u'.val) :=
        Lib.hid fun u => class_call (cf1.out u.val (hb0.trans (u.ok.mono hb0.size))) fun w' hw => hw ▸ u.ok
      have CF2 : Hid (∀ u : Within (Below wr.heap.size wr), Calls Tryd.prog 21 #[.slice a2 n2 c2, .slice a2' n2 c2', .int .u64 P] u.val fun e w'' => e = .returned (.int .i64 (o2 : Int)) ∧ ∃ u' : Within (Below wr.heap.size wr), w'' = u'.val) :=
        Lib.hid fun u => class_call (cf2.out u.val (hb0.trans (u.ok.mono hb0.size))) fun w' hw => hw ▸ u.ok
      have inst : Nonempty (Within (Below wr.heap.size wr)) := ⟨⟨wr, Below.refl _ _⟩⟩
      have hdr : Below wr.heap.size wr wr.drew := (Below.refl _ _).drew
      have Hq1 := Lib.hid (And.intro q1 e1); clear q1 e1
      by_cases hk0 : k = 0
      · have i3 : decide ((0 : Int) < (k : Int)) = false := decide_eq_false (by omega)
        have i4 : ¬ 0 < k := by omega
        have Hk0 := Lib.hid hk0; clear hk0
        go_wp2_with fail
        refine wp_region_class (Below wr.heap.size wr) hdr (by kernel_rfl) (by kernel_rfl) ?_
        repeat (go_big_quiet_step ((first | (go_at_call 14; exact C14.out _) | (go_at_call_of 21 (Value.slice a1 n1 c1); exact CF1.out _) | (go_at_call_of 21 (Value.slice a2 n2 c2); exact CF2.out _))))
        refine wpQuiet_nil ?_
        rintro _ ⟨⟨wx, hwx⟩, rfl⟩
        go_wp2_with fail
        go_roundw
        case rel => exact ⟨k + 1, by go_num, by omega, hb0.trans (hwx.mono hb0.size)⟩
        case measure => simp [intOf]; omega
      · obtain ⟨j, hj⟩ : ∃ j, j + 1 = k := ⟨k - 1, by omega⟩
        have q0 : wr.cell? ⟨g, j, none⟩ = some (.int .u64 (((l.getD j (0, 0)).1 : Nat) : Int)) := Hlr.out.q j (by rw [hn.out]; omega)
        obtain ⟨P0, hP0⟩ : ∃ q, q = (l.getD j (0, 0)).1 := ⟨_, rfl⟩
        rw [← hP0] at q0
        have hlt0 : P0 < P := by
          have h5 := HK.out.2.2.2.2 (by omega)
          rw [← hj, Nat.add_sub_cancel, ← hP0] at h5
          exact h5
        clear hP0
        have hc0 : ∀ u : Within (Below wr.heap.size wr), u.val.cell? ⟨g, j, none⟩ = some (.int .u64 P0) := fun u => (u.ok.cell (World.block_lt_of_cell? _ _ q0)).trans q0
        have t0 : decide (P ≤ P0) = false := decide_eq_false (by omega)
        have hltH := Lib.hid hlt0; clear hlt0 q0
        have i0 : (0 : Int) ≤ (j : Int) := Int.natCast_nonneg _
        have i2 : (j : Int) < (n : Int) := by omega
        have i3 : decide ((0 : Int) < (k : Int)) = true := decide_eq_true (by omega)
        have i4 : 0 < k := by omega
        have ej : IntKind.i64.wrap ((k : Int) - 1) = (j : Int) := by rw [IntWalk.i64_in _ (by omega)]; omega
        have ej2 : (k : Int) - 1 = (j : Int) := by omega
        have Hj := Lib.hid hj; clear hj
        go_wp2_with fail
        refine wp_region_class (Below wr.heap.size wr) hdr (by kernel_rfl) (by kernel_rfl) ?_
        repeat (go_big_quiet_step ((first | (go_at_call 14; exact C14.out _) | (go_at_call_of 21 (Value.slice a1 n1 c1); exact CF1.out _) | (go_at_call_of 21 (Value.slice a2 n2 c2); exact CF2.out _))))
        refine wpQuiet_nil ?_
        rintro _ ⟨⟨wx, hwx⟩, rfl⟩
        go_wp2_with fail
        go_roundw
        case rel => exact ⟨k + 1, by go_num, by omega, hb0.trans (hwx.mono hb0.size)⟩
        case measure => simp [intOf]; omega
    · obtain rfl : n = k := by omega
      have Hbs := Hbk; clear Hbk
      clear hkn hk
      have Hl2' := Hl2
      go_wp2_with fail
      go_loopw [17] (fun t wr => UniqRel n1 w4 t wr) (fun t _ => n1 - (intOf t).toNat)
      case atStart => exact ⟨0, rfl, Nat.zero_le _, Hbs.out⟩
      case round =>
        obtain ⟨k, rfl, hk, hbk⟩ := hrel
        have Hbk := Lib.hid hbk; clear hbk
        by_cases hkn : k < n1
        · obtain rfl : a1 = some ⟨g1, 0, none⟩ := Hl1'.out.at1 (by rw [hn1.out]; omega)
          obtain rfl : a1' = some ⟨g1', 0, none⟩ := Hl1'.out.at2 (by rw [hn1.out]; omega)
          have Hlr := Lib.hid (Hl1'.out.later Hbk.out)
          have q1 : wr.cell? ⟨g1, k, none⟩ = some (.int .u64 (((l1.getD k (0, 0)).1 : Nat) : Int)) := Hlr.out.q k (by rw [hn1.out]; exact hkn)
          have e1 : wr.cell? ⟨g1', k, none⟩ = some (.int .i64 (((l1.getD k (0, 0)).2 : Nat) : Int)) := Hlr.out.e k (by rw [hn1.out]; exact hkn)
          obtain ⟨P, hP⟩ : ∃ q, q = (l1.getD k (0, 0)).1 := ⟨_, rfl⟩
          obtain ⟨D, hD⟩ : ∃ q, q = (l1.getD k (0, 0)).2 := ⟨_, rfl⟩
          rw [← hP] at q1
          rw [← hD] at e1
          obtain ⟨o, ho⟩ : ∃ o, o = oftenL l P := ⟨_, rfl⟩
          have Hk := Hall1.out k (by rw [hn1.out]; exact hkn)
          rw [← hP, ← hD, ← ho] at Hk
          have cf : Hid (∀ W, Below w4.heap.size w4 W → Calls Tryd.prog 21 #[.slice a n c, .slice a' n c', .int .u64 P] W fun e w' => e = .returned (.int .i64 (o : Int)) ∧ W = w') := Lib.hid fun W hW => by
            rw [ho]; exact often_core n l hn (Lib.hid (by omega)) h64l P a a' c c' g g' W (Lib.hid (Hl'.out.later hW))
          have hD1 : decide ((D : Int) < 1) = false := decide_eq_false (by have := Hk.1; omega)
          have hDo : decide (o < D) = false := decide_eq_false (by have := Hk.2; omega)
          have hlg := Hlr.out.lt1 (by rw [hn1.out]; omega)
          have hlg' := Hlr.out.lt2 (by rw [hn1.out]; omega)
          have hb0 := Hbk.out
          have HH := Lib.hid (And.intro hP (And.intro hD ho)); clear hP hD ho
          have HK := Lib.hid Hk; clear Hk
          have i0' : (0 : Int) ≤ (k : Int) := Int.natCast_nonneg _
          have i1 : (k : Int) < (n1 : Int) := by omega
          have hcq : ∀ u : Within (Below wr.heap.size wr), u.val.cell? ⟨g1, k, none⟩ = some (.int .u64 P) := fun u => (u.ok.cell (World.block_lt_of_cell? _ _ q1)).trans q1
          have hce : ∀ u : Within (Below wr.heap.size wr), u.val.cell? ⟨g1', k, none⟩ = some (.int .i64 D) := fun u => (u.ok.cell (World.block_lt_of_cell? _ _ e1)).trans e1
          have CF : Hid (∀ u : Within (Below wr.heap.size wr), Calls Tryd.prog 21 #[.slice a n c, .slice a' n c', .int .u64 P] u.val fun e w'' => e = .returned (.int .i64 (o : Int)) ∧ ∃ u' : Within (Below wr.heap.size wr), w'' = u'.val) :=
            Lib.hid fun u => class_call (cf.out u.val (hb0.trans (u.ok.mono hb0.size))) fun w' hw => hw ▸ u.ok
          have inst : Nonempty (Within (Below wr.heap.size wr)) := ⟨⟨wr, Below.refl _ _⟩⟩
          have hdr : Below wr.heap.size wr wr.drew := (Below.refl _ _).drew
          have Hq1 := Lib.hid (And.intro q1 e1); clear q1 e1
          go_wp2_with fail
          refine wp_region_class (Below wr.heap.size wr) hdr (by kernel_rfl) (by kernel_rfl) ?_
          repeat (go_big_quiet_step ((go_at_call 21; exact CF.out _)))
          refine wpQuiet_nil ?_
          rintro _ ⟨⟨wx, hwx⟩, rfl⟩
          go_wp2_with fail
          go_roundw
          case rel => exact ⟨k + 1, by go_num, by omega, hb0.trans (hwx.mono hb0.size)⟩
          case measure => simp [intOf]; omega
        · obtain rfl : n1 = k := by omega
          have Hbs := Hbk; clear Hbk
          clear hkn hk
          go_wp2_with fail
          go_loopw [18] (fun t wr => UniqRel n2 w4 t wr) (fun t _ => n2 - (intOf t).toNat)
          case atStart => exact ⟨0, rfl, Nat.zero_le _, Hbs.out⟩
          case round =>
            obtain ⟨k, rfl, hk, hbk⟩ := hrel
            have Hbk := Lib.hid hbk; clear hbk
            by_cases hkn : k < n2
            · obtain rfl : a2 = some ⟨g2, 0, none⟩ := Hl2'.out.at1 (by rw [hn2.out]; omega)
              obtain rfl : a2' = some ⟨g2', 0, none⟩ := Hl2'.out.at2 (by rw [hn2.out]; omega)
              have Hlr := Lib.hid (Hl2'.out.later Hbk.out)
              have q1 : wr.cell? ⟨g2, k, none⟩ = some (.int .u64 (((l2.getD k (0, 0)).1 : Nat) : Int)) := Hlr.out.q k (by rw [hn2.out]; exact hkn)
              have e1 : wr.cell? ⟨g2', k, none⟩ = some (.int .i64 (((l2.getD k (0, 0)).2 : Nat) : Int)) := Hlr.out.e k (by rw [hn2.out]; exact hkn)
              obtain ⟨P, hP⟩ : ∃ q, q = (l2.getD k (0, 0)).1 := ⟨_, rfl⟩
              obtain ⟨D, hD⟩ : ∃ q, q = (l2.getD k (0, 0)).2 := ⟨_, rfl⟩
              rw [← hP] at q1
              rw [← hD] at e1
              obtain ⟨o, ho⟩ : ∃ o, o = oftenL l P := ⟨_, rfl⟩
              have Hk := Hall2.out k (by rw [hn2.out]; exact hkn)
              rw [← hP, ← hD, ← ho] at Hk
              have cf : Hid (∀ W, Below w4.heap.size w4 W → Calls Tryd.prog 21 #[.slice a n c, .slice a' n c', .int .u64 P] W fun e w' => e = .returned (.int .i64 (o : Int)) ∧ W = w') := Lib.hid fun W hW => by
                rw [ho]; exact often_core n l hn (Lib.hid (by omega)) h64l P a a' c c' g g' W (Lib.hid (Hl'.out.later hW))
              have hD1 : decide ((D : Int) < 1) = false := decide_eq_false (by have := Hk.1; omega)
              have hDo : decide (o < D) = false := decide_eq_false (by have := Hk.2; omega)
              have hlg := Hlr.out.lt1 (by rw [hn2.out]; omega)
              have hlg' := Hlr.out.lt2 (by rw [hn2.out]; omega)
              have hb0 := Hbk.out
              have HH := Lib.hid (And.intro hP (And.intro hD ho)); clear hP hD ho
              have HK := Lib.hid Hk; clear Hk
              have i0' : (0 : Int) ≤ (k : Int) := Int.natCast_nonneg _
              have i1 : (k : Int) < (n2 : Int) := by omega
              have hcq : ∀ u : Within (Below wr.heap.size wr), u.val.cell? ⟨g2, k, none⟩ = some (.int .u64 P) := fun u => (u.ok.cell (World.block_lt_of_cell? _ _ q1)).trans q1
              have hce : ∀ u : Within (Below wr.heap.size wr), u.val.cell? ⟨g2', k, none⟩ = some (.int .i64 D) := fun u => (u.ok.cell (World.block_lt_of_cell? _ _ e1)).trans e1
              have CF : Hid (∀ u : Within (Below wr.heap.size wr), Calls Tryd.prog 21 #[.slice a n c, .slice a' n c', .int .u64 P] u.val fun e w'' => e = .returned (.int .i64 (o : Int)) ∧ ∃ u' : Within (Below wr.heap.size wr), w'' = u'.val) :=
                Lib.hid fun u => class_call (cf.out u.val (hb0.trans (u.ok.mono hb0.size))) fun w' hw => hw ▸ u.ok
              have inst : Nonempty (Within (Below wr.heap.size wr)) := ⟨⟨wr, Below.refl _ _⟩⟩
              have hdr : Below wr.heap.size wr wr.drew := (Below.refl _ _).drew
              have Hq1 := Lib.hid (And.intro q1 e1); clear q1 e1
              go_wp2_with fail
              refine wp_region_class (Below wr.heap.size wr) hdr (by kernel_rfl) (by kernel_rfl) ?_
              repeat (go_big_quiet_step ((go_at_call 21; exact CF.out _)))
              refine wpQuiet_nil ?_
              rintro _ ⟨⟨wx, hwx⟩, rfl⟩
              go_wp2_with fail
              go_roundw
              case rel => exact ⟨k + 1, by go_num, by omega, hb0.trans (hwx.mono hb0.size)⟩
              case measure => simp [intOf]; omega
            · obtain rfl : n2 = k := by omega
              have Hbs := Hbk; clear Hbk
              clear hkn hk
              go_wp2_with fail
              go_ret
              exact ⟨rfl, Hb'.out.trans (Hbs.out.mono Hb'.out.size)⟩
end Go.Proofs.YtpphfeinmmmckaaDoor
