/-
  The walk of prime.Is: it answers by twelve bases' trial, then by the strong test to each; it makes one block of its own.
-/
import Derived.Test.YtpphfeinmmmckaaDoorPow
import Derived.Test.YtpphfeinmmmckaaDoorMr
import Derived.Deep.LoopGhost
namespace Go.Proofs.YtpphfeinmmmckaaDoor
open Go.RowKit

abbrev basesV : Value := .agg #[.int .u64 2, .int .u64 3, .int .u64 5, .int .u64 7, .int .u64 11, .int .u64 13, .int .u64 17, .int .u64 19, .int .u64 23, .int .u64 29, .int .u64 31, .int .u64 37]

theorem base_run (k : Nat) (hk : k < 12) (w : World) : (Instr.index 47 basesV (.int .i64 (k : Int))).run Tryd.prog w = .ok (.int .u64 ((baseAt k : Nat) : Int)) w := by
  rcases k with _ | _ | _ | _ | _ | _ | _ | _ | _ | _ | _ | _ | k
  iterate 12 kernel_rfl
  omega

set_option maxRecDepth 100000 in
set_option maxHeartbeats 400000 in
theorem is_lt2 (n : Nat) (w : World) (e1 : decide ((n : Int) < 2) = true) :
    Calls Tryd.prog 14 #[.int .u64 n] w fun e w' => e = .returned (.bool false) ∧ Below w.heap.size w w' := by
  go_enter Tryd.func14, Tryd.ntmps14
  go_wp2_with fail
  go_step3
  go_wp2_with fail
  rw [Exit.noGoto_ret]
  go_ret
  exact ⟨rfl, Below.refl _ _⟩

set_option maxRecDepth 100000 in
set_option maxHeartbeats 400000 in
theorem is_big (n : Nat) (w : World) (e1 : decide ((n : Int) < 2) = false) (e2 : decide ((9223372036854775808 : Int) ≤ (n : Int)) = true) :
    Calls Tryd.prog 14 #[.int .u64 n] w fun e w' => e = .returned (.bool false) ∧ Below w.heap.size w w' := by
  go_enter Tryd.func14, Tryd.ntmps14
  go_wp2_with fail
  go_step3
  go_wp2_with fail
  rw [Exit.noGoto_ret]
  go_ret
  exact ⟨rfl, Below.refl _ _⟩

set_option maxRecDepth 100000 in
set_option maxHeartbeats 400000 in
theorem is_div (n k : Nat) (w : World) (hk : k ≤ 11) (e1 : decide ((n : Int) < 2) = false) (e2 : decide ((9223372036854775808 : Int) ≤ (n : Int)) = false)
    (hno : Hid (∀ j, j < k → n % baseAt j ≠ 0)) (hyes : Hid (n % baseAt k = 0)) :
    Calls Tryd.prog 14 #[.int .u64 n] w fun e w' => e = .returned (.bool ((n : Int) == ((baseAt k : Nat) : Int))) ∧ Below w.heap.size w w' := by
  obtain ⟨B, hB⟩ : ∃ B, B = baseAt k := ⟨_, rfl⟩
  rw [← hB]
  have HB := Lib.hid hB; clear hB
  go_enter Tryd.func14, Tryd.ntmps14
  go_wp2_with fail
  go_step3
  go_wp2_with fail
  go_loop [19] (fun t19 => ∃ j : Nat, j ≤ k ∧ t19 = .int .i64 j) (fun t19 => 12 - (intOf t19).toNat)
  case atStart => exact ⟨0, by omega, rfl⟩
  case round =>
    obtain ⟨j, hj, rfl⟩ := hrel
    obtain ⟨b, hb⟩ : ∃ b, b = baseAt j := ⟨_, rfl⟩
    have hrun := base_run j (by omega)
    rw [← hb] at hrun
    have hb2 : 2 ≤ b := by rw [hb]; exact (baseAt_lo j (by omega)).1
    have hb0 : (b : Int) ≠ 0 := by omega
    have Hb := Lib.hid hb; clear hb
    by_cases hjk : j < k
    · have ht : ((n : Int) % (b : Int) == 0) = false := by
        have := hno.out j hjk
        rw [← Hb.out] at this
        rw [beq_eq_false_iff_ne]; omega
      go_wp2_with fail
      go_round
      case rel => exact ⟨j + 1, by omega, by go_num⟩
      case measure => simp [intOf]; omega
    · obtain rfl : j = k := by omega
      have ht : ((n : Int) % (b : Int) == 0) = true := by
        have := hyes.out
        rw [← Hb.out] at this
        rw [beq_iff_eq]; omega
      go_wp2_with fail
      go_ret
      refine ⟨?_, ?_⟩
      · show Ending.returned (.bool ((n : Int) == (b : Int))) = _
        rw [HB.out, ← Hb.out]
      exact (Below.refl _ _).alloc (Nat.le_refl _) _

abbrev basesO : Obj := .cells #[.int .u64 2, .int .u64 3, .int .u64 5, .int .u64 7, .int .u64 11, .int .u64 13, .int .u64 17, .int .u64 19, .int .u64 23, .int .u64 29, .int .u64 31, .int .u64 37] 47

theorem tab_alloc {w : World} (h : TabAt w) (o : Obj) : TabAt (w.alloc o) := fun j hj => by
  have := h j hj
  exact (((Below.refl w.heap.size w).alloc (Nat.le_refl _) o).cell (p := ⟨0, j, none⟩) (World.block_lt_of_cell? _ _ this)).trans this

/-- What holds of the second loop at its head. -/
def StrongRel (n odd twos : Nat) (w : World) (g : Nat) (t38 : Value) (wr : World) : Prop :=
  ∃ j : Nat, j + g = 12 ∧ t38 = .int .i64 j ∧ (∀ i, i < j → strong n odd twos (baseAt i) = true) ∧ ∃ k, wr = w.drewN k

/-- What holds of the squarings at their head: x, and how many are left. -/
def SquareRel (n c : Nat) (R : Bool) (w : World) (g : Nat) (t10 t55 : Value) (wr : World) : Prop :=
  ∃ x i : Nat, i + g = c ∧ t10 = .int .u64 x ∧ t55 = .int .i64 i ∧ squares n g x = R ∧ x < n ∧ ∃ k, wr = w.drewN k

set_option maxRecDepth 100000 in
set_option maxHeartbeats 800000 in
theorem is_strong (n odd twos : Nat) (w : World) (hT : Hid (TabAt w)) (e1 : decide ((n : Int) < 2) = false) (e2 : decide ((9223372036854775808 : Int) ≤ (n : Int)) = false)
    (hnb : n < 9223372036854775808) (hn2 : 2 ≤ n) (htw : 1 ≤ twos) (htw2 : twos ≤ 63) (hod : Hid (odd < 18446744073709551616))
    (hno : Hid (∀ j, j < 12 → n % baseAt j ≠ 0))
    (n1 : Nat) (en1 : (n : Int) - 1 = (n1 : Int)) (hn1 : Hid (n1 = n - 1)) (htz : Hid (Lib.ctz 64 n1 = twos)) (eodd : (n1 : Int) / 2 ^ twos = (odd : Int)) :
    Calls Tryd.prog 14 #[.int .u64 n] w fun e w' => e = .returned (.bool (strongs n odd twos)) ∧ Below w.heap.size w w' := by
  have c27 : Hid (∀ w, TabAt w → Calls Tryd.prog 27 #[.int .u64 n1] w fun e w' => e = .returned (.int .i64 (twos : Int)) ∧ w = w') := Lib.hid fun w hw => htz.out ▸ tz64_any n1 (by have := hn1.out; omega) w hw
  go_enter Tryd.func14, Tryd.ntmps14
  go_wp2_with fail
  go_step3
  go_wp2_with fail
  go_loop [19] (fun t19 => ∃ j : Nat, j ≤ 12 ∧ t19 = .int .i64 j) (fun t19 => 12 - (intOf t19).toNat)
  case atStart => exact ⟨0, by omega, rfl⟩
  case round =>
    obtain ⟨j, hj, rfl⟩ := hrel
    by_cases hjk : j < 12
    · obtain ⟨b, hb⟩ : ∃ b, b = baseAt j := ⟨_, rfl⟩
      have hrun := base_run j (by omega)
      rw [← hb] at hrun
      have hb2 : 2 ≤ b := by rw [hb]; exact (baseAt_lo j (by omega)).1
      have hb0 : (b : Int) ≠ 0 := by omega
      have ht : ((n : Int) % (b : Int) == 0) = false := by
        have := hno.out j hjk
        rw [← hb] at this
        rw [beq_eq_false_iff_ne]; omega
      have Hb := Lib.hid hb; clear hb
      go_wp2_with fail
      go_round
      case rel => exact ⟨j + 1, by omega, by go_num⟩
      case measure => simp [intOf]; omega
    · obtain rfl : j = 12 := by omega
      go_wp2_with fail
      refine (c27.out _ (tab_alloc hT.out _)).mono ?_
      rintro e w' ⟨rfl, rfl⟩
      go_wp2_with fail
      go_step3
      go_wp2_with fail
      clear c27 hno
      go_loopg [38] 12 (fun g t38 wr => StrongRel n odd twos (w.alloc basesO) g t38 wr)
      case atStart => exact ⟨0, rfl, rfl, fun i hi => absurd hi (Nat.not_lt_zero _), 0, rfl⟩
      case round =>
        obtain ⟨gO, rfl⟩ : ∃ g, g = gk := ⟨_, rfl⟩
        obtain ⟨j, hjg, rfl, hall, k0, rfl⟩ := hrel
        have Hall := Lib.hid hall; clear hall
        by_cases hjk : j < 12
        · obtain ⟨b, hb⟩ : ∃ b, b = baseAt j := ⟨_, rfl⟩
          have hrun := base_run j (by omega)
          rw [← hb] at hrun
          have Hb := Lib.hid hb; clear hb
          obtain ⟨x, hx⟩ : ∃ x, x = b ^ odd % n := ⟨_, rfl⟩
          have c28 : Hid (∀ w, Calls Tryd.prog 28 #[.int .u64 b, .int .u64 odd, .int .u64 n] w fun e w' => e = .returned (.int .u64 (x : Int)) ∧ ∃ n, w' = w.drewN n) :=
            Lib.hid fun w => hx ▸ power_any b odd n w (by omega) (by omega) hod.out
          have Hx := Lib.hid hx; clear hx
          by_cases hx1 : x = 1 ∨ x = n1
          · have hs : Hid (strong n odd twos (baseAt j) = true) := Lib.hid (by unfold strong; rw [← Hb.out, ← Hx.out, ← hn1.out, if_pos hx1])
            by_cases h1 : x = 1
            · have t1 : ((x : Int) == 1) = true := by rw [beq_iff_eq]; omega
              have Hx1 := Lib.hid hx1; clear hx1 h1
              go_wp2_with fail
              refine (c28.out _).mono ?_
              rintro e w' ⟨rfl, k1, rfl⟩
              go_wp2_with fail
              go_roundg (gO - 1)
              case rel => exact ⟨j + 1, by omega, by go_num, fun i hi => by rcases Nat.lt_succ_iff_lt_or_eq.1 hi with h | rfl; exact Hall.out i h; exact hs.out, _, rfl⟩
              case measure => omega
            · have t1 : ((x : Int) == 1) = false := by rw [beq_eq_false_iff_ne]; omega
              have t2 : ((x : Int) == (n1 : Int)) = true := by rw [beq_iff_eq]; omega
              have Hx1 := Lib.hid hx1; clear hx1 h1
              go_wp2_with fail
              refine (c28.out _).mono ?_
              rintro e w' ⟨rfl, k1, rfl⟩
              go_wp2_with fail
              go_roundg (gO - 1)
              case rel => exact ⟨j + 1, by omega, by go_num, fun i hi => by rcases Nat.lt_succ_iff_lt_or_eq.1 hi with h | rfl; exact Hall.out i h; exact hs.out, _, rfl⟩
              case measure => omega
          · have hs : Hid (strong n odd twos (baseAt j) = squares n (twos - 1) x) := Lib.hid (by unfold strong; rw [← Hb.out, ← Hx.out, ← hn1.out, if_neg hx1])
            have t1 : ((x : Int) == 1) = false := by rw [beq_eq_false_iff_ne]; omega
            have t2 : ((x : Int) == (n1 : Int)) = false := by rw [beq_eq_false_iff_ne]; omega
            clear hx1
            obtain ⟨c, hc⟩ : ∃ c, c = twos - 1 := ⟨_, rfl⟩
            have ec : (twos : Int) - 1 = (c : Int) := by omega
            rw [← hc] at hs
            have Hc := Lib.hid hc; clear hc
            have Hxn : Hid (x < n) := Lib.hid (by rw [Hx.out]; exact Nat.mod_lt _ (by omega))
            go_wp2_with fail
            refine (c28.out _).mono ?_
            rintro e w' ⟨rfl, k1, rfl⟩
            go_wp2_with fail
            clear t1 t2
            go_loopg [10, 55] c (fun g2 t10 t55 wr => SquareRel n c (squares n c x) (w.alloc basesO) g2 t10 t55 wr)
            case atStart => exact ⟨x, 0, by omega, rfl, rfl, rfl, Hxn.out, _, rfl⟩
            case round =>
              obtain ⟨y, i, hig, rfl, rfl, hsq, hy, k2, rfl⟩ := hrel
              have Hsq := Lib.hid hsq; clear hsq
              by_cases hic : i < c
              · obtain ⟨z, hz⟩ : ∃ z, z = y * y % n := ⟨_, rfl⟩
                have c29 : Hid (∀ w, Calls Tryd.prog 29 #[.int .u64 y, .int .u64 y, .int .u64 n] w fun e w' => e = .returned (.int .u64 (z : Int)) ∧ ∃ n, w' = w.drewN n) :=
                  Lib.hid fun w => hz ▸ times_any y y n w (by omega) (by omega)
                have Hzn : Hid (z < n) := Lib.hid (by rw [hz]; exact Nat.mod_lt _ (by omega))
                have Hstep : Hid (squares n gk y = if z = n1 then true else squares n (gk - 1) z) := Lib.hid (by
                  obtain ⟨g', rfl⟩ : ∃ g', gk = g' + 1 := ⟨gk - 1, by omega⟩
                  rw [squares, ← hz, ← hn1.out]; rfl)
                clear hz
                by_cases hzn : z = n1
                · have t1 : ((z : Int) == (n1 : Int)) = true := by rw [beq_iff_eq]; omega
                  have Hzn1 := Lib.hid hzn; clear hzn
                  go_wp2_with fail
                  refine (c29.out _).mono ?_
                  rintro e w' ⟨rfl, k3, rfl⟩
                  go_wp2_with fail
                  go_roundg (gO - 1)
                  case rel =>
                    refine ⟨j + 1, by omega, by go_num, fun i hi => ?_, _, rfl⟩
                    rcases Nat.lt_succ_iff_lt_or_eq.1 hi with h | rfl
                    · exact Hall.out i h
                    · rw [hs.out, ← Hsq.out, Hstep.out, if_pos Hzn1.out]
                  case measure => omega
                · have t1 : ((z : Int) == (n1 : Int)) = false := by rw [beq_eq_false_iff_ne]; omega
                  have Hzn1 := Lib.hid hzn; clear hzn
                  go_wp2_with fail
                  refine (c29.out _).mono ?_
                  rintro e w' ⟨rfl, k3, rfl⟩
                  go_wp2_with fail
                  go_roundg (gk - 1)
                  case rel => exact ⟨z, i + 1, by omega, rfl, by go_num, by rw [← Hsq.out, Hstep.out, if_neg Hzn1.out], Hzn.out, _, rfl⟩
                  case measure => omega
              · obtain rfl : i = c := by omega
                go_wp2_with fail
                try rw [Exit.noGoto_ret]
                go_ret
                refine ⟨?_, ?_⟩
                · show Ending.returned (.bool false) = _
                  have hf : strong n odd twos (baseAt j) = false := by
                    rw [hs.out, ← Hsq.out, show gk = 0 by omega]; rfl
                  have : strongs n odd twos = false := by
                    unfold strongs
                    rw [List.all_eq_false]
                    exact ⟨j, List.mem_range.2 hjk, by rw [hf]; decide⟩
                  rw [this]
                · exact below_drewN ((Below.refl _ _).alloc (Nat.le_refl _) _) _
        · obtain rfl : j = 12 := by omega
          go_wp2_with fail
          try rw [Exit.noGoto_ret]
          go_ret
          refine ⟨?_, ?_⟩
          · show Ending.returned (.bool true) = _
            have : strongs n odd twos = true := by
              unfold strongs
              rw [List.all_eq_true]
              exact fun i hi => Hall.out i (List.mem_range.1 hi)
            rw [this]
          · exact below_drewN ((Below.refl _ _).alloc (Nat.le_refl _) _) _

/-- prime.Is. -/
theorem is_any (n : Nat) (w : World) (hT : TabAt w) :
    Calls Tryd.prog 14 #[.int .u64 n] w fun e w' => e = .returned (.bool (mrIs n)) ∧ Below w.heap.size w w' := by
  unfold mrIs
  by_cases h1 : n < 2
  · rw [if_pos (.inl h1)]
    exact is_lt2 n w (by simp; omega)
  · by_cases h2 : 9223372036854775808 ≤ n
    · rw [if_pos (.inr h2)]
      exact is_big n w (by simp; omega) (decide_eq_true (by omega))
    · rw [if_neg (by omega)]
      have e1 : decide ((n : Int) < 2) = false := by simp; omega
      have e2 : decide ((9223372036854775808 : Int) ≤ (n : Int)) = false := decide_eq_false (by omega)
      cases hf : (List.range 12).find? (fun k => n % baseAt k == 0) with
      | some k =>
        obtain ⟨a, b, c⟩ := find_some hf
        have := is_div n k w (by omega) e1 e2 (Lib.hid fun j hj => by have := c j hj; simpa using this) (Lib.hid (by simpa using b))
        have e : ((n : Int) == ((baseAt k : Nat) : Int)) = (n == baseAt k) := by rw [Bool.eq_iff_iff]; simp; omega
        rw [e] at this
        exact this
      | none =>
        have hn := List.find?_eq_none.1 hf
        have hno : ∀ j, j < 12 → n % baseAt j ≠ 0 := fun j hj => by have := hn j (List.mem_range.2 hj); simpa using this
        have h0 : n % 2 ≠ 0 := hno 0 (by omega)
        obtain ⟨t1, t2, t3, _, _⟩ := ctz_even (n - 1) (by omega) (by omega) (by omega)
        exact is_strong n _ _ w (Lib.hid hT) e1 e2 (by omega) (by omega) t1 t2 (Lib.hid t3) (Lib.hid hno) (n - 1) (by omega) (Lib.hid rfl) (Lib.hid rfl) (by rw [Int.natCast_ediv, Int.natCast_pow]; rfl)
end Go.Proofs.YtpphfeinmmmckaaDoor
