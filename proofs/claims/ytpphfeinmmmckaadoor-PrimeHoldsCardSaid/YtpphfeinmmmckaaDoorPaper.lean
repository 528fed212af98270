/-
  A paper that came in, opened to its cells.
-/
import Derived.Test.YtpphfeinmmmckaaDoorBase
import Derived.Test.YtpphfeinmmmckaaDoorHolds
import Derived.Deep.Slices
import Derived.Deep.Fields
namespace Go.Proofs.YtpphfeinmmmckaaDoor
open Go.ChangeShapes Go.WideShapes Go.ChangeAt Go.RowKit Go.Deep

theorem cells43 : Tryd.prog.cellsOf 43 = 4 := by kernel_rfl
theorem cells22 : Tryd.prog.cellsOf 22 = 1 := by kernel_rfl
theorem cells3 : Tryd.prog.cellsOf 3 = 1 := by kernel_rfl
theorem und41 : Tryd.prog.underlying 41 = some (.slice 43) := by kernel_rfl
theorem und33 : Tryd.prog.underlying 33 = some (.slice 22) := by kernel_rfl
theorem und34 : Tryd.prog.underlying 34 = some (.slice 3) := by kernel_rfl
theorem und22 : Tryd.prog.underlying 22 = some (.int .u64) := by kernel_rfl
theorem und3 : Tryd.prog.underlying 3 = some (.int .i64) := by kernel_rfl

/-- The fields of a step: four, a cell each. -/
theorem step_fields : ∃ fs : Array Field, Tryd.prog.underlying 43 = some (.struct fs) ∧ oneCellFields Tryd.prog fs = true ∧ (fs[0]?).map (·.type) = some 22 ∧ (fs[1]?).map (·.type) = some 22 ∧ (fs[2]?).map (·.type) = some 33 ∧ (fs[3]?).map (·.type) = some 34 :=
  ⟨_, Tryd.underlying43, by kernel_rfl, by kernel_rfl, by kernel_rfl, by kernel_rfl, by kernel_rfl⟩

section
variable {H : Type} {enc : TypeId × Value → H} {w : World} {spare : Nat → Bool} {held : Bool}

theorem add_off (a : Addr) (j : Nat) (hj : 0 < j) : a.add j = ⟨a.block, a.off + j, none⟩ := by
  unfold Addr.add
  have : ¬ j = 0 := by omega
  simp [this]

theorem open_u64s {fuel : Nat} {cs : List Value} {x : DataW H × List MemPlace} (h : DataW.trod enc Tryd.prog w 0 spare held fuel 33 cs = some x) :
    ∃ (a : Option Addr) (Q : List Nat) (c : Nat), cs = [.slice a Q.length c] ∧ U64s w a Q ∧ Q.length ≤ 9223372036854775807 ∧ ∀ q ∈ Q, q < 18446744073709551616 := by
  rcases open_ints und33 und22 cells22 h with ⟨rfl, _⟩ | ⟨a, len, cap, zs, rfl, _, hl, hm, hz, _, hc, hwf⟩
  · exact ⟨none, [], 0, rfl, ⟨fun h => absurd h (by simp), fun b h => by cases h⟩, by simp, fun q hq => by simp at hq⟩
  · have hlen : len ≤ zs.length := by rw [hz]; split <;> omega
    have hQl : ((zs.take len).map Int.toNat).length = len := by rw [List.length_map, List.length_take]; omega
    refine ⟨some a, (zs.take len).map Int.toNat, cap, by rw [hQl], ⟨fun _ => ⟨a, rfl⟩, fun b hb j hj => ?_⟩, by rw [hQl]; unfold maxLen at hm; omega, fun q hq => ?_⟩
    · cases hb
      rw [hQl] at hj
      rw [hc j (by omega)]
      have hjz : j < zs.length := by omega
      have hw := hwf _ (List.getElem_mem hjz)
      have hb := bounds_u64 hw
      have e1 : zs.getD j 0 = zs[j] := by simp [List.getD, hjz]
      have e2 : ((zs.take len).map Int.toNat).getD j 0 = zs[j].toNat := by simp [List.getD, hj, hjz]
      rw [e1, e2]
      congr 2
      omega
    · obtain ⟨z, hz2, rfl⟩ := List.mem_map.1 hq
      have hb := bounds_u64 (hwf z (List.mem_of_mem_take hz2))
      omega

theorem open_i64s {fuel : Nat} {cs : List Value} {x : DataW H × List MemPlace} (h : DataW.trod enc Tryd.prog w 0 spare held fuel 34 cs = some x) :
    ∃ (a : Option Addr) (E : List Int) (c : Nat), cs = [.slice a E.length c] ∧ I64s w a E ∧ E.length ≤ 9223372036854775807 := by
  rcases open_ints und34 und3 cells3 h with ⟨rfl, _⟩ | ⟨a, len, cap, zs, rfl, _, hl, hm, hz, _, hc, _⟩
  · exact ⟨none, [], 0, rfl, ⟨fun h => absurd h (by simp), fun b h => by cases h⟩, by simp⟩
  · have hlen : len ≤ zs.length := by rw [hz]; split <;> omega
    have hQl : (zs.take len).length = len := by rw [List.length_take]; omega
    refine ⟨some a, zs.take len, cap, by rw [hQl], ⟨fun _ => ⟨a, rfl⟩, fun b hb j hj => ?_⟩, by rw [hQl]; unfold maxLen at hm; omega⟩
    cases hb
    rw [hQl] at hj
    rw [hc j (by omega)]
    have e2 : (zs.take len).getD j 0 = zs.getD j 0 := by simp [List.getD, hj]
    rw [e2]

theorem open_step {fuel : Nat} {cs : List Value} {x : DataW H × List MemPlace} {b : Addr} (hc : w.cells? 0 b 4 = some cs) (h : DataW.trod enc Tryd.prog w 0 spare held fuel 43 cs = some x) : ∃ s : StepV, StepAt w b s := by
  obtain ⟨fs, hu, hone, f0, f1, f2, f3⟩ := step_fields
  obtain ⟨xs, n, _, _, hlen, hxl, hf⟩ := DataW.trod_struct hu h
  rw [cells43] at hlen
  obtain ⟨_, hcl, hat⟩ := World.cells?_some hc
  have one : ∀ (j : Nat) (t : TypeId), (fs[j]?).map (·.type) = some t → j < 4 → ∃ (v : Value) (y : DataW H × List MemPlace), cs[j]? = some v ∧ DataW.trod enc Tryd.prog w 0 spare held n t [v] = some y := by
    intro j t ht hj
    obtain ⟨f, hfj, rfl⟩ := Option.map_eq_some_iff.1 ht
    obtain ⟨ho, hk⟩ := hone_of hone j f hfj
    have h1 := hf j f hfj
    have hjx : j < xs.length := by rw [hxl]; exact (Array.getElem?_eq_some_iff.1 hfj).1
    rw [ho, hk, List.drop_eq_getElem_cons (by omega), List.getElem?_eq_getElem hjx] at h1
    exact ⟨_, _, List.getElem?_eq_getElem (by omega), h1⟩
  have cell : ∀ (j : Nat) (v : Value), cs[j]? = some v → w.cell? (b.add j) = some v := by
    intro j v hv
    have hj : j < 4 := by have := (List.getElem?_eq_some_iff.1 hv).1; omega
    rw [hat j hj, hv]
  obtain ⟨v0, y0, e0, t0⟩ := one 0 22 f0 (by omega)
  obtain ⟨v1, y1, e1, t1⟩ := one 1 22 f1 (by omega)
  obtain ⟨v2, y2, e2, t2⟩ := one 2 33 f2 (by omega)
  obtain ⟨v3, y3, e3, t3⟩ := one 3 34 f3 (by omega)
  obtain ⟨N, hN, _, wN⟩ := DataW.trod_int und22 t0
  obtain ⟨G, hG, _, wG⟩ := DataW.trod_int und22 t1
  obtain ⟨qa, Q, qc, hq, hQ, lQ, bQ⟩ := open_u64s t2
  obtain ⟨ea, E, ec, he, hE, lE⟩ := open_i64s t3
  cases hN; cases hG; cases hq; cases he
  have bN := bounds_u64 wN
  have bG := bounds_u64 wG
  obtain ⟨N, rfl⟩ := Int.eq_ofNat_of_zero_le bN.1
  obtain ⟨G, rfl⟩ := Int.eq_ofNat_of_zero_le bG.1
  refine ⟨⟨N, G, Q, E, qa, ea, qc, ec⟩, ?_, ?_, ?_, ?_, hQ, hE, lQ, lE, (by omega : N < 18446744073709551616), (by omega : G < 18446744073709551616), bQ⟩
  · exact cell 0 _ e0
  · have := cell 1 _ e1; rwa [add_off _ _ (by omega)] at this
  · have := cell 2 _ e2; rwa [add_off _ _ (by omega)] at this
  · have := cell 3 _ e3; rwa [add_off _ _ (by omega)] at this

theorem open_paper {fuel : Nat} {cs : List Value} {x : DataW H × List MemPlace} (h : DataW.trod enc Tryd.prog w 0 spare held fuel 41 cs = some x) :
    ∃ (a : Option Addr) (l : List StepV) (c : Nat), cs = [.slice a l.length c] ∧ l.length ≤ c ∧ PaperAt w a l := by
  rcases open_slice und41 h with ⟨rfl, _⟩ | ⟨a, len, cap, m, n, D, Pl, rfl, _, hl, hm, hmm, _, hi⟩
  · exact ⟨none, [], 0, rfl, Nat.le_refl _, ⟨fun h => absurd h (by simp), by simp, fun b h => by cases h⟩⟩
  · have hle : len ≤ m := by rw [hmm]; split <;> omega
    rw [cells43] at hi
    obtain ⟨S, hS⟩ := choose_lt (α := StepV) (n := len) (p := fun i s => StepAt w (a.add (i * 4)) s) (fun i hil => by
      obtain ⟨cs', h1, h2⟩ := hi i (by omega)
      exact open_step h1 h2)
    have hln : ((List.range len).map S).length = len := by rw [List.length_map, List.length_range]
    refine ⟨some a, (List.range len).map S, cap, by rw [hln], by rw [hln]; exact hl, ⟨fun _ => ⟨a, rfl⟩, by rw [hln]; unfold maxLen at hm; omega, fun b hb i hil => ?_⟩⟩
    cases hb
    rw [hln] at hil
    have e : ((List.range len).map S).getD i default = S i := by simp [List.getD, hil]
    rw [e]; exact hS i hil
end
end Go.Proofs.YtpphfeinmmmckaaDoor
