/-
  prime.Prove's closure show: it writes the steps of a prime behind a paper.
-/
import Derived.Test.YtpphfeinmmmckaaDoorPInv
namespace Go.Proofs.YtpphfeinmmmckaaDoor
open Go.RowKit

theorem Tryd.info43 : (Tryd.prog.info? 43).map (fun i => (i.zero, i.size, i.bytes)) = some (some (.agg #[.int .u64 0, .int .u64 0, .slice none 0 0, .slice none 0 0]), 4, 64) := by kernel_rfl

def ShowPost (h p : Nat) (v : Value) (l : List StepV) (w : World) (e : Ending) (w' : World) : Prop :=
  ∃ (v' : Value) (new : List StepV), e = .returned (.tuple #[]) ∧ ShowInv h w' v' (l ++ new) ∧ new.length + 1 ≤ p ∧ GoodL (l ++ new) ∧ shownF (l ++ new) (l ++ new).length p = true ∧
    (shownF l l.length p = false → ∃ m s, l ++ new = m ++ [s] ∧ s.N = p) ∧ (shownF l l.length p = true → new = []) ∧ Moved h v v' w w'

def ShowRel (h : Nat) (v : Value) (l : List StepV) (Q : List Nat) (w0 : World) (t16 : Value) (wr : World) : Prop :=
  ∃ (i : Nat) (v' : Value) (new : List StepV), t16 = .int .i64 i ∧ i ≤ Q.length ∧ ShowInv h wr v' (l ++ new) ∧ GoodL (l ++ new) ∧ new.length + 1 ≤ prd (Q.take i) ∧
    (∀ j, j < i → shownF (l ++ new) (l ++ new).length (Q.getD j 0) = true) ∧ Moved h v v' w0 wr

theorem getQ_mem {Q : List Nat} {k n : Nat} (hQ : Q.length = n) (hk : k < n) : Q.getD k 0 ∈ Q := by
  have hkl : k < Q.length := by omega
  have : Q.getD k 0 = Q[k] := by simp [List.getD, hkl]
  rw [this]; exact List.getElem_mem hkl

theorem prd_take_le : ∀ (Q : List Nat) (k : Nat), (∀ q ∈ Q, 1 ≤ q) → prd (Q.take k) ≤ prd Q
  | [], k, _ => by rw [List.take_nil]; exact Nat.le_refl _
  | q :: Q, 0, h => by rw [List.take_zero]; exact prd_pos _ h
  | q :: Q, k + 1, h => by
    show q * prd (Q.take k) ≤ q * prd Q
    exact Nat.mul_le_mul_left _ (prd_take_le Q k fun x hx => h x (List.mem_cons_of_mem _ hx))

/-- A cell of a new block of four. -/
theorem new_four (w : World) (a b c d : Value) (t : TypeId) : ∀ j u, ([a, b, c, d] : List Value)[j]? = some u → (w.alloc (.cells #[a, b, c, d] t)).cell? ((⟨w.heap.size, 0, none⟩ : Addr).add j) = some u := by
  intro j u hu
  rw [addr_add, World.cell?_alloc_at _ _ _ _ rfl, ← hu]
  simp

theorem four_one (p G n n' c c' : Nat) (a a' : Option Addr) : ∀ u ∈ ([.int .u64 p, .int .u64 G, .slice a n c, .slice a' n' c'] : List Value), u.oneCell' = true := by
  intro u hu
  simp only [List.mem_cons, List.not_mem_nil, or_false] at hu
  rcases hu with rfl | rfl | rfl | rfl <;> rfl

set_option maxRecDepth 100000 in
set_option maxHeartbeats 1600000 in
theorem show_any (h : Nat) : ∀ (K p : Nat) (w : World) (v : Value) (l : List StepV), p ≤ K → Hid (Nt.Prime p) → Hid (p ≤ 1099511627776) → Hid (ShowInv h w v l) → Hid (GoodL l) → Hid (l.length + p ≤ 2199023255552) →
    Calls Tryd.prog 36 #[.int .u64 p, .pointer (some ⟨h + 1, 0, none⟩), .pointer (some ⟨h + 2, 0, none⟩), .pointer (some ⟨h, 0, none⟩)] w (ShowPost h p v l w) := by
  obtain ⟨i43, hi43, hy0, hy1, hy2⟩ := info_parts Tryd.info43
  intro K
  induction K with
  | zero =>
    intro p w v l hpK hp _ _ _ _
    have := hp.out.1
    omega
  | succ K ih =>
    intro p w v l hpK hp h40 H hG hlen
    have hd := H.out.done
    have c35 := Lib.hid (done_inv p h w v l H.out)
    obtain ⟨R, hR⟩ : ∃ R, R = shownF l l.length p := ⟨_, rfl⟩
    rw [← hR] at c35
    have HR := Lib.hid hR; clear hR
    have HpK := Lib.hid hpK; clear hpK
    have IH := Lib.hid ih; clear ih
    have Hi43 := Lib.hid (And.intro hi43 (And.intro hy0 (And.intro hy1 hy2))); clear hi43 hy0 hy1 hy2
    go_enter Tryd.func36, Tryd.ntmps36
    go_wp2_with fail
    refine c35.out.mono ?_
    rintro e w1 ⟨rfl, hb1⟩
    have Hb1 := Lib.hid hb1; clear hb1
    have H1 := Lib.hid (H.out.later Hb1.out)
    clear hd
    cases hRc : R with
    | true =>
      go_wp2_with fail
      refine bodyPost_ret (results_none rfl _ _ _) rfl ?_
      exact ⟨v, [], rfl, by rw [List.append_nil]; exact H1.out, by have := hp.out.1; show 0 + 1 ≤ p; omega, by rw [List.append_nil]; exact hG.out, by rw [List.append_nil, ← HR.out, hRc], (fun h0 => absurd (hRc.symm.trans (HR.out.trans h0)) (by simp)), fun _ => rfl, Moved.of_below Hb1.out⟩
    | false =>
      have hp3 : Hid (3 ≤ p) := Lib.hid (by
        have h2 := hp.out.1
        rcases Nat.lt_or_ge p 3 with h3 | h3
        · exfalso
          obtain rfl : p = 2 := by omega
          have h4 := HR.out
          rw [hRc, shownF] at h4
          simp at h4
        · exact h3)
      have c37 := Lib.hid (pstep_any p w1 hp (Lib.hid ⟨hp3.out, h40.out⟩))
      go_wp2_with fail
      refine c37.out.mono ?_
      rintro e w2 ⟨G, v2, v3, rfl, hGG, hown, hb2⟩
      obtain ⟨a, c, a', c', rfl, rfl, hU, _, hblk⟩ := pair_rows hown
      have Hown := Lib.hid hown; clear hown
      have Hb2 := Lib.hid hb2; clear hb2
      have HU := Lib.hid hU; clear hU
      have Hblk := Lib.hid hblk; clear hblk
      have HGG := Lib.hid hGG; clear hGG
      obtain ⟨Q, hQ⟩ : ∃ Q, Q = fstL (facs (p - 1)) := ⟨_, rfl⟩
      obtain ⟨n, hn⟩ : ∃ n, n = (facs (p - 1)).length := ⟨_, rfl⟩
      rw [← hn]
      have hQn : Hid (Q.length = n) := Lib.hid (by rw [hQ, fst_len, hn])
      have HQ := Lib.hid (And.intro hQ hn); clear hQ hn
      obtain ⟨w3, hw3⟩ : ∃ w3, w3 = w2.alloc (.cells #[.int .u64 p, .int .u64 G, .slice a n c, .slice a' n c'] 43) := ⟨_, rfl⟩
      obtain ⟨hs, hhs⟩ : ∃ hs, hs = w2.heap.size := ⟨_, rfl⟩
      go_wp2_with fail
      rw [← hw3, ← hhs]
      have hvh : Hid (h < w.heap.size ∧ h + 2 < w.heap.size) := Lib.hid ⟨World.block_lt_of_cell? _ _ H.out.out, World.block_lt_of_cell? _ _ H.out.show_⟩
      have hvb : Hid (∀ k, v.ownBlock = some k → k < w.heap.size) := Lib.hid fun k hk => (H.out.row.lt k hk).2
      have hb23 : Hid (Below w2.heap.size w2 w3) := Lib.hid (by rw [hw3]; exact (Below.refl _ _).alloc (Nat.le_refl _) _)
      have hb13 : Hid (Below w1.heap.size w1 w3) := Lib.hid (Hb2.out.trans (hb23.out.mono Hb2.out.size))
      have H3 := Lib.hid (H1.out.later hb13.out)
      have hs12 : Hid (w.heap.size ≤ hs ∧ w.heap.size ≤ w1.heap.size ∧ hs < w3.heap.size) := Lib.hid (by
        refine ⟨by rw [hhs]; exact Nat.le_trans Hb1.out.size Hb2.out.size, Hb1.out.size, ?_⟩
        rw [hw3, hhs]; show w2.heap.size < (w2.heap.push _).size; rw [Array.size_push]; omega)
      have hz : Hid (w3.cell? ⟨hs, 0, none⟩ = some (.int .u64 p) ∧ w3.cell? ⟨hs, 1, none⟩ = some (.int .u64 G) ∧ w3.cell? ⟨hs, 2, none⟩ = some (.slice a n c) ∧ w3.cell? ⟨hs, 3, none⟩ = some (.slice a' n c')) := Lib.hid (by
        rw [hw3, hhs]
        exact ⟨World.cell?_alloc_at _ _ _ _ rfl, World.cell?_alloc_at _ _ _ _ rfl, World.cell?_alloc_at _ _ _ _ rfl, World.cell?_alloc_at _ _ _ _ rfl⟩)
      have hnb : Hid (n ≤ 9223372036854775807) := Lib.hid (by rw [HQ.out.2]; exact row_len Hown.out.q)
      have Hw3 := Lib.hid (And.intro hw3 hhs); clear hw3 hhs
      have hsm : Hid ((∀ q ∈ Q, Nt.Prime q ∧ q < p) ∧ prd Q ≤ p - 1) := Lib.hid (by rw [HQ.out.1]; exact facs_small hp3.out h40.out)
      go_loopw [16] (fun t16 wr => ShowRel h v l Q w3 t16 wr) (fun t16 _ => n - (intOf t16).toNat)
      case atStart => exact ⟨0, v, [], rfl, Nat.zero_le _, by rw [List.append_nil]; exact H3.out, by rw [List.append_nil]; exact hG.out, Nat.le_refl _, fun j hj => absurd hj (Nat.not_lt_zero _), Moved.of_below (Below.refl _ _)⟩
      case round =>
        obtain ⟨i, v', new, rfl, hi, hInv, hGood, hcnt, hall, hmov⟩ := hrel
        rw [hQn.out] at hi
        have HInv := Lib.hid hInv; clear hInv
        have HGood := Lib.hid hGood; clear hGood
        have Hcnt := Lib.hid hcnt; clear hcnt
        have Hall := Lib.hid hall; clear hall
        have Hmov := Lib.hid hmov; clear hmov
        by_cases hin : i < n
        · obtain ⟨b, rfl⟩ := HU.out.at_ (by rw [← HQ.out.1, hQn.out]; omega)
          have hbb := Hblk.out b rfl (by rw [← HQ.out.2]; omega)
          have q3 : w3.cell? (b.add i) = some (.int .u64 ((Q.getD i 0 : Nat) : Int)) := by
            rw [HQ.out.1]
            exact cell_later hb23.out (HU.out.cells b rfl i (by rw [← HQ.out.1, hQn.out]; exact hin))
          have hblk0 : (b.add i).block = b.block := by unfold Addr.add; split <;> rfl
          have q1 := Hmov.out.cell q3 (by rw [hblk0]; have := hvh.out; have := hs12.out; omega) (by
            rw [hblk0]; intro e; have := hvb.out _ e; have := hs12.out; omega)
          clear q3 hblk0
          obtain ⟨q, hq⟩ : ∃ q, q = Q.getD i 0 := ⟨_, rfl⟩
          rw [← hq] at q1
          have hqm : q ∈ Q := by rw [hq]; exact getQ_mem hQn.out hin
          have hqp := Lib.hid (hsm.out.1 q hqm)
          have hpt : Hid (prd (Q.take (i + 1)) = prd (Q.take i) * q) := Lib.hid (by rw [hq]; exact prd_take (by rw [hQn.out]; exact hin))
          have hcap : Hid (new.length + q + 1 ≤ p) := Lib.hid (by
            have h1 := count_next Hcnt.out hqp.out.1.1 (n := q - 1) (by have := hqp.out.1.1; omega)
            rw [← hpt.out] at h1
            have h2 := prd_take_le Q (i + 1) (fun x hx => by have := (hsm.out.1 x hx).1.1; omega)
            have h3 := hsm.out.2
            have := hqp.out.1.1
            have := hp3.out
            omega)
          have c36 := Lib.hid (IH.out q wr v' (l ++ new) (by have := hqp.out.2; have := HpK.out; omega) (Lib.hid hqp.out.1) (Lib.hid (by have := hqp.out.2; have := h40.out; omega)) HInv HGood (Lib.hid (by rw [List.length_append]; have := hcap.out; have := hlen.out; omega)))
          have hsh := HInv.out.show_
          have Hq := Lib.hid (And.intro hq hqm); clear hq hqm hbb
          have Hin := Lib.hid (And.intro (show i + 1 ≤ n by omega) (show n - ((i : Int) + 1).toNat < n - ((i : Int)).toNat by omega))
          have ek : wrap64 ((i : Int) + 1) = (i : Int) + 1 := by have := hnb.out; rw [IntWalk.wrap64_in _ (by omega)]
          go_wp2_with fail
          refine c36.out.mono ?_
          rintro e w5 ⟨v5, new5, rfl, hInv5, hcnt5, hGood5, hsh5, _, _, hmov5⟩
          have HInv5 := Lib.hid hInv5; clear hInv5
          have HC5 := Lib.hid (And.intro hcnt5 (And.intro hGood5 hsh5)); clear hcnt5 hGood5 hsh5
          have Hmov5 := Lib.hid hmov5; clear hmov5 q1 hsh
          go_wp2_with fail
          go_roundw
          case rel =>
            refine ⟨i + 1, v5, new ++ new5, by first | (rw [ek]; rfl) | rfl, by rw [hQn.out]; exact Hin.out.1, by rw [← List.append_assoc]; exact HInv5.out, by rw [← List.append_assoc]; exact HC5.out.2.1, ?_, ?_, Hmov.out.trans Hmov5.out⟩
            · rw [hpt.out, List.length_append]
              exact count_next Hcnt.out hqp.out.1.1 HC5.out.1
            · intro j hj
              rw [← List.append_assoc]
              rcases Nat.lt_or_ge j i with h1 | h1
              · exact shownF_mono (Hall.out j h1)
              · have e : j = i := by clear ek; omega
                rw [e, ← Hq.out.1]; exact HC5.out.2.2
          case measure =>
            try rw [ek]
            exact Hin.out.2
        · obtain rfl : n = i := by omega
          have hne1 : hs ≠ h := by have := hvh.out; have := hs12.out; omega
          have hne2 : v.ownBlock ≠ some hs := fun e => by have := hvb.out _ e; have := hs12.out; omega
          have z0 := Hmov.out.cell hz.out.1 hne1 hne2
          have z1 := Hmov.out.cell hz.out.2.1 hne1 hne2
          have z2 := Hmov.out.cell hz.out.2.2.1 hne1 hne2
          have z3 := Hmov.out.cell hz.out.2.2.2 hne1 hne2
          have o1 := HInv.out.out
          have Hne := Lib.hid (And.intro hne1 hne2); clear hne1 hne2
          have hcntn : Hid (new.length + 1 ≤ p - 1) := Lib.hid (by
            have h1 := Hcnt.out
            rw [List.take_of_length_le (by rw [hQn.out]; exact Nat.le_refl _)] at h1
            exact Nat.le_trans h1 hsm.out.2)
          have hgrow0 : Hid (h + 3 ≤ wr.heap.size) := Lib.hid (by have := World.block_lt_of_cell? _ _ HInv.out.show_; exact this)
          go_wp2_with (at_builtin; refine Hid.out ?_)
          refine Lib.hid ?_
          refine wpList_append_lies _ rfl (.tmp 24) (.tmp 26) 41 rfl (h + 3) 43 i43 _ 4 64 Tryd.underlying41 Hi43.out.1 Hi43.out.2.1 Hi43.out.2.2.1 Hi43.out.2.2.2 rfl (by decide) v' (l ++ new).length ((l ++ new).flatMap stepCells) rfl (HInv.out.row.alloc _)
            ⟨wr.heap.size, 0, none⟩ 1 1 [.int .u64 p, .int .u64 G, .slice a n c, .slice a' n c'] rfl rfl (new_four _ _ _ _ _ _) (four_one _ _ _ _ _ _ _ _)
            (by omega) (by rw [List.length_append]; have := hcntn.out; have := hlen.out; unfold maxLen; omega) (by rw [List.length_append]; have := hcntn.out; have := hlen.out; omega) (by have := hgrow0.out; simp; omega) _ rfl fun g cap w6 hown6 hgrow6 hat hlt6 => ?_
          have Hown6 := Lib.hid hown6; clear hown6
          have Hgrow6 := Lib.hid hgrow6; clear hgrow6
          have Hat := Lib.hid hat; clear hat
          have hvb' : Hid (∀ k, v'.ownBlock = some k → h + 3 ≤ k ∧ k < wr.heap.size) := Lib.hid fun k hk => HInv.out.row.lt k hk
          have hold : Hid (∀ k, k < wr.heap.size → v'.ownBlock ≠ some k → w6.heap[k]? = wr.heap[k]?) := Lib.hid fun k hk hne =>
            (Hgrow6.out.block k (by show k < (wr.heap.push _).size; rw [Array.size_push]; omega) (fun e => hne e.symm)).trans (Below.heap_alloc _ _ _ hk)
          have hh6 : h < wr.heap.size := by have := hgrow0.out; omega
          have hne6 : v'.ownBlock ≠ some h := fun e => by have := (hvb'.out _ e).1; omega
          have o6 : w6.cell? ⟨h, 0, none⟩ = some v' := (World.cell?_of_block (w := wr) (hold.out h hh6 hne6)).trans o1
          have f6 : w6.frozen? ⟨h, 0, none⟩ = false := (World.frozen?_of_block (w := wr) (hold.out h hh6 hne6)).trans HInv.out.outf
          clear hh6 hne6 o1 z0 z1 z2 z3
          go_wp2_with fail
          obtain ⟨v6, hv6⟩ : ∃ v6 : Value, v6 = .slice (some ⟨g, 0, none⟩) (l.length + new.length + 1) cap := ⟨_, rfl⟩
          obtain ⟨s, hs7⟩ : ∃ s : StepV, s = ⟨p, G, fstL (facs (p - 1)), sndL (facs (p - 1)), a, a', c, c'⟩ := ⟨_, rfl⟩
          have elen : (l ++ new).length = l.length + new.length := List.length_append
          have hown6 := Hown6.out
          rw [elen, ← hv6] at hown6
          rw [← hv6]
          have hmv : Moved h v' v6 wr (w6.setCell ⟨h, 0, none⟩ v6) := by
            refine ⟨Hgrow6.out.os, Hgrow6.out.tape, Hgrow6.out.output, ?_, fun k hk hkh hkv => (Below.heap_setCell _ _ _ _ hkh).trans (hold.out k hk hkv), ?_⟩
            · show wr.heap.size ≤ (w6.heap.modify _ _).size
              rw [Array.size_modify]
              refine Nat.le_trans ?_ Hgrow6.out.size
              show wr.heap.size ≤ (wr.heap.push _).size
              rw [Array.size_push]; omega
            · rcases Hat.out with h1 | h1
              · left; rw [h1, hv6]; rfl
              · right
                intro g' hg'
                rw [hv6] at hg'
                simp only [Value.ownBlock, Option.some.injEq] at hg'
                rw [← hg', h1]
                show wr.heap.size ≤ (wr.heap.push _).size
                rw [Array.size_push]; omega
          have hh0 : h < h + 3 := by omega
          have hne1' : v'.ownBlock ≠ some (h + 1) := fun e => by have := (hvb'.out _ e).1; omega
          have hne2' : v'.ownBlock ≠ some (h + 2) := fun e => by have := (hvb'.out _ e).1; omega
          have hown3 : OwnPair w1.heap.size w3 (.slice a n c) (.slice a' n c') (facs (p - 1)) := by
            rw [HQ.out.2]; exact Hown.out.later hb23.out
          have hownr := own_moved Hmov.out H3.out hown3 (by have := hvh.out; have := hs12.out; omega)
          have hown7 := (own_moved hmv HInv.out hownr (by have := hvh.out; have := hs12.out; omega)).mono (show h + 3 ≤ w1.heap.size by have := hvh.out; have := hs12.out; omega)
          have hInv7 : ShowInv h (w6.setCell ⟨h, 0, none⟩ v6) v6 (l ++ (new ++ [s])) := by
            rw [← List.append_assoc]
            refine ⟨World.cell?_setCell_same _ _ _ o6, (World.frozen?_setCell _ _ _ _).trans f6, hmv.cell HInv.out.done (by simp) hne1', hmv.cell HInv.out.show_ (by simp) hne2', ?_, ?_⟩
            · have h1 := ownsRow_setCell_below hown6 (a := ⟨h, 0, none⟩) hh0 v6
              have e1 : ((l ++ new) ++ [s]).length = l.length + new.length + 1 := by rw [List.length_append, elen]; rfl
              have e2 : ((l ++ new) ++ [s]).flatMap stepCells = (l ++ new).flatMap stepCells ++ [.int .u64 p, .int .u64 G, .slice a n c, .slice a' n c'] := by
                rw [List.flatMap_append, hs7, HQ.out.2]
                simp [stepCells, fstL, sndL]
              rw [e1, e2]
              exact h1
            · intro s' hs'
              rcases List.mem_append.1 hs' with h1 | h1
              · obtain ⟨fs, x1, x2, x3, r⟩ := HInv.out.own s' h1
                exact ⟨fs, x1, x2, own_moved hmv HInv.out x3 hh0, r⟩
              · obtain rfl : s' = s := by simpa using h1
                rw [hs7]
                refine ⟨facs (p - 1), rfl, rfl, ?_, ?_, ?_, fun x hx => ?_⟩
                · show OwnPair (h + 3) _ (.slice a (fstL (facs (p - 1))).length c) (.slice a' (sndL (facs (p - 1))).length c') _
                  rw [fst_len, snd_len, ← HQ.out.2]
                  exact hown7
                · show p < _; have := h40.out; omega
                · show G < _; have := h40.out; have := HGG.out; omega
                · have h2 := (hsm.out.1 x (by rw [HQ.out.1]; exact hx)).2
                  have := h40.out
                  omega
          refine bodyPost_end (results_none rfl _ _ _) rfl ?_
          refine ⟨v6, new ++ [s], rfl, hInv7, by rw [List.length_append]; have := hcntn.out; show new.length + 1 + 1 ≤ p; omega, ?_, ?_, fun _ => ⟨l ++ new, s, (List.append_assoc _ _ _).symm, by rw [hs7]⟩, (fun h0 => absurd (hRc.symm.trans (HR.out.trans h0)) (by simp)), ?_⟩
          · rw [← List.append_assoc]
            refine goodL_snoc HGood.out ?_
            rw [hs7]
            refine step_good hp3.out h40.out HGG.out fun q hq => ?_
            rw [← HQ.out.1] at hq
            obtain ⟨j, hj, rfl⟩ := List.getElem_of_mem hq
            have := Hall.out j (by rw [← hQn.out]; exact hj)
            have e : Q.getD j 0 = Q[j] := by simp [List.getD, hj]
            rwa [e] at this
          · rw [← List.append_assoc]
            have := shownF_last (l ++ new) s
            rw [hs7] at this ⊢
            exact this
          · exact ((Moved.of_below (Hb1.out.trans (hb13.out.mono Hb1.out.size))).trans Hmov.out).trans hmv
end Go.Proofs.YtpphfeinmmmckaaDoor
