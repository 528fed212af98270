/-
  The reference's step, on a paper in memory.
-/
import Derived.Test.YtpphfeinmmmckaaDoorRDef
namespace Go.Proofs.YtpphfeinmmmckaaDoor
open Go.RowKit

def RStepRel (n : Nat) (L : Nat → Nat → Nat → Bool) (R : Bool) (w1 : World) (t6 t7 : Value) (wr : World) : Prop :=
  ∃ left k m : Nat, t6 = .int .u64 left ∧ t7 = .int .i64 k ∧ k ≤ n ∧ (1 ≤ left ∧ left < 18446744073709551616) ∧ wr = w1.drewN m ∧ L (n - k) k left = R

def RDivRel (q m : Nat) (R : Option Nat) (t6 t11 : Value) : Prop := ∃ l j : Nat, t6 = .int .u64 l ∧ t11 = .int .i64 j ∧ j ≤ m ∧ (1 ≤ l ∧ l * 2 ^ j < 18446744073709551616) ∧ divs q (m - j) l = R

theorem div_half2 {q l j : Nat} (hq : 2 ≤ q) (h : 1 ≤ l ∧ l * 2 ^ j < 18446744073709551616) (hd : l % q = 0) : 1 ≤ l / q ∧ l / q * 2 ^ (j + 1) < 18446744073709551616 := by
  have h1 := Nat.div_add_mod l q
  rw [hd, Nat.add_zero] at h1
  have h2 : 2 * (l / q) ≤ l := by
    calc 2 * (l / q) ≤ q * (l / q) := Nat.mul_le_mul_right _ hq
      _ = l := h1
  have h3 : l / q ≠ 0 := by intro h0; rw [h0, Nat.mul_zero] at h1; omega
  refine ⟨by omega, ?_⟩
  have h4 : l / q * 2 ^ (j + 1) = 2 * (l / q) * 2 ^ j := by rw [Nat.pow_succ, Nat.mul_comm (2 ^ j) 2, ← Nat.mul_assoc, Nat.mul_comm (l / q) 2]
  rw [h4]
  exact Nat.lt_of_le_of_lt (Nat.mul_le_mul_right _ h2) h.2

theorem div_small {l j : Nat} (h : 1 ≤ l ∧ l * 2 ^ j < 18446744073709551616) : j < 64 ∧ l < 18446744073709551616 := by
  constructor
  · rcases Nat.lt_or_ge j 64 with h1 | h1
    · exact h1
    · have h2 : 2 ^ 64 ≤ 2 ^ j := Nat.pow_le_pow_right (by omega) h1
      have h3 : 1 * 2 ^ j ≤ l * 2 ^ j := Nat.mul_le_mul_right _ h.1
      omega
  · have h2 : 1 ≤ 2 ^ j := Nat.one_le_two_pow
    have h3 : l * 1 ≤ l * 2 ^ j := Nat.mul_le_mul_left _ h2
    omega

def KnownRel (i q : Nat) (l : List StepV) (t9 t10 : Value) : Prop := ∃ j : Nat, t9 = .bool (((l.take j).any fun s => s.N == q) || q == 2) ∧ t10 = .int .i64 j ∧ j ≤ i

theorem any_take {l : List StepV} {j : Nat} (hj : j < l.length) (q : Nat) : (((l.take (j + 1)).any fun s => s.N == q) || q == 2) = ((((l.take j).any fun s => s.N == q) || q == 2) || ((l.getD j default).N == q)) := by
  have e : l.getD j default = l[j] := by simp [List.getD, hj]
  rw [List.take_succ_eq_append_getElem hj, List.any_append, e]
  simp only [List.any_cons, List.any_nil, Bool.or_false]
  cases (l.take j).any fun s => s.N == q <;> cases (q == 2) <;> cases (l[j].N == q) <;> rfl

theorem getD_mem' {Q : List Nat} {k n : Nat} (hQ : Q.length = n) (hk : k < n) : Q.getD k 0 ∈ Q := by
  have hkl : k < Q.length := by omega
  have : Q.getD k 0 = Q[k] := by simp [List.getD, hkl]
  rw [this]; exact List.getElem_mem hkl

set_option maxRecDepth 100000 in
set_option maxHeartbeats 1600000 in
theorem rstep_core (i len cap : Nat) (l : List StepV) (hl : Hid (l.length = len)) (hi : i < len) (hlen : Hid (len ≤ 9223372036854775807)) (A : Addr) (w : World) (hp : Hid (PaperAt w (some A) l))
    (s : StepV) (hs : Hid (s = l.getD i default)) (N G ne : Nat) (hN : Hid (N = s.N ∧ G = s.G ∧ ne = s.Q.length ∧ ne = s.E.length)) (hNb : Hid (3 ≤ N ∧ N < 9223372036854775808))
    (t1 : decide ((N : Int) < 3) = false) (t2 : decide ((9223372036854775808 : Int) ≤ (N : Int)) = false) (t3 : decide ((G : Int) < 1) = false) (t4 : decide (N ≤ G) = false)
    (M : Nat) (eN : IntKind.u64.wrap ((N : Int) - 1) = (M : Int)) (hM : Hid (1 ≤ M ∧ M < 9223372036854775808)) (f : Nat → Bool) (hf : Hid (f = qOk l i s.Q)) (L : Nat → Nat → Nat → Bool) (hL : Hid (L = rLoop f G M N s.Q s.E))
    (hpos : Hid (∀ k, k < ne → f k = true → 2 ≤ s.Q.getD k 0)) :
    Calls Tryd.prog 34 #[.slice (some A) len cap, .int .i64 i] w fun e w' => e = .returned (.bool (L ne 0 M)) ∧ Below w.heap.size w w' := by
  have hst := Lib.hid (show StepAt w (A.add (i * 4)) s by rw [hs.out]; exact hp.out.steps A rfl i (by rw [hl.out]; exact hi))
  obtain ⟨qa, hqa⟩ : ∃ z, z = s.qa := ⟨_, rfl⟩
  obtain ⟨ea, hea⟩ : ∃ z, z = s.ea := ⟨_, rfl⟩
  obtain ⟨qc, hqc⟩ : ∃ z, z = s.qc := ⟨_, rfl⟩
  obtain ⟨ec, hec⟩ : ∃ z, z = s.ec := ⟨_, rfl⟩
  have c0 := hst.out.c0
  have c1 := hst.out.c1
  have c2 := hst.out.c2
  have c3 := hst.out.c3
  rw [← hN.out.1] at c0
  rw [← hN.out.2.1] at c1
  rw [← hN.out.2.2.1, ← hqa, ← hqc] at c2
  rw [← hN.out.2.2.2, ← hea, ← hec] at c3
  have HA := Lib.hid (And.intro hqa hea); clear hqa hea hqc hec
  obtain ⟨w1, hw1⟩ : ∃ w1, w1 = w.alloc (.cells #[.int .u64 N, .int .u64 G, .slice qa ne qc, .slice ea ne ec] 43) := ⟨_, rfl⟩
  have hb1 : Hid (Below w.heap.size w w1) := Lib.hid (by rw [hw1]; exact (Below.refl _ _).alloc (Nat.le_refl _) _)
  have hp1 := Lib.hid (hp.out.later hb1.out)
  have hq1 : Hid (U64s w1 qa s.Q) := Lib.hid (by rw [HA.out.1]; exact hst.out.q.later hb1.out)
  have he1 : Hid (I64s w1 ea s.E) := Lib.hid (by rw [HA.out.2]; exact hst.out.e.later hb1.out)
  have hneb : Hid (ne ≤ 9223372036854775807) := Lib.hid (by rw [hN.out.2.2.1]; exact hst.out.lenQ)
  have Hw1 := Lib.hid hw1; clear hw1
  obtain ⟨P, hP⟩ : ∃ P, P = G ^ M % N := ⟨_, rfl⟩
  have cP : Hid (∀ W, Calls Tryd.prog 16 #[.int .u64 G, .int .u64 M, .int .u64 N] W fun e w' => e = .returned (.int .u64 (P : Int)) ∧ W = w') := Lib.hid fun W => by rw [hP]; exact rpower_any G M N W (by have := hNb.out; omega) (by have := hNb.out; omega) (by have := hM.out; omega)
  have hL0 : Hid (∀ k left, L 0 k left = ((left == 1) && (P == 1))) := Lib.hid fun k left => by rw [hL.out, hP]; rfl
  have hLs : Hid (∀ r k left, L (r + 1) k left = match rOne f G M N s.Q s.E k left with | none => false | some l' => L r (k + 1) l') := Lib.hid fun r k left => by rw [hL.out]; rfl
  have hP1 : ((P : Int) == 1) = (P == 1) := by rw [Bool.eq_iff_iff, beq_iff_eq, beq_iff_eq]; omega
  have HP := Lib.hid hP; clear hP
  go_enter Tryd.func34, Tryd.ntmps34
  go_wp2_with fail
  rw [← Hw1.out]
  have z0 : w1.cell? ⟨w.heap.size, 0, none⟩ = some (.int .u64 N) := by rw [Hw1.out]; exact World.cell?_alloc_at _ _ _ _ rfl
  have z1 : w1.cell? ⟨w.heap.size, 1, none⟩ = some (.int .u64 G) := by rw [Hw1.out]; exact World.cell?_alloc_at _ _ _ _ rfl
  have z2 : w1.cell? ⟨w.heap.size, 2, none⟩ = some (.slice qa ne qc) := by rw [Hw1.out]; exact World.cell?_alloc_at _ _ _ _ rfl
  have z3 : w1.cell? ⟨w.heap.size, 3, none⟩ = some (.slice ea ne ec) := by rw [Hw1.out]; exact World.cell?_alloc_at _ _ _ _ rfl
  have eNH := Lib.hid eN
  clear c0 c1 c2 c3 t1 t2 t3 t4 eN
  go_loopw [6, 7] (fun t6 t7 wr => RStepRel ne L (L ne 0 M) w1 t6 t7 wr) (fun _ t7 _ => ne - (intOf t7).toNat)
  case atStart => exact ⟨M, 0, 0, rfl, rfl, Nat.zero_le _, by have := hM.out; omega, rfl, rfl⟩
  case round =>
    obtain ⟨left, k, m, rfl, rfl, hk, hlt, rfl, hR⟩ := hrel
    have Hlt := Lib.hid hlt; clear hlt
    have HR := Lib.hid hR; clear hR
    by_cases hkn : k < ne
    · obtain ⟨b, rfl⟩ := hq1.out.at_ (by rw [← hN.out.2.2.1]; omega)
      obtain ⟨b', rfl⟩ := he1.out.at_ (by rw [← hN.out.2.2.2]; omega)
      have q1 := hq1.out.cells b rfl k (by rw [← hN.out.2.2.1]; exact hkn)
      have e1 := he1.out.cells b' rfl k (by rw [← hN.out.2.2.2]; exact hkn)
      obtain ⟨q, hq⟩ : ∃ q, q = s.Q.getD k 0 := ⟨_, rfl⟩
      obtain ⟨e, he⟩ : ∃ e, e = s.E.getD k 0 := ⟨_, rfl⟩
      rw [← hq] at q1
      rw [← he] at e1
      have Hqe := Lib.hid (And.intro hq he); clear hq he
      go_wp2_with fail
      go_loop [9, 10] (fun t9 t10 => KnownRel i q l t9 t10) (fun _ t10 => i - (intOf t10).toNat)
      case atStart =>
        refine ⟨0, ?_, rfl, Nat.zero_le _⟩
        have tq : ((q : Int) == 2) = (q == 2) := by rw [Bool.eq_iff_iff, beq_iff_eq, beq_iff_eq]; omega
        rw [← tq]; rfl
      case round =>
        obtain ⟨j, rfl, rfl, hj⟩ := hrel
        by_cases hji : j < i
        · have hjl : j < l.length := by rw [hl.out]; omega
          have hjs := (hp1.out.steps A rfl j hjl).c0
          have hat := any_take hjl q
          obtain ⟨N', hN'⟩ : ∃ z, z = (l.getD j default).N := ⟨_, rfl⟩
          rw [← hN'] at hjs hat
          obtain ⟨K, hK⟩ : ∃ z, z = (((l.take j).any fun s => s.N == q) || q == 2) := ⟨_, rfl⟩
          rw [← hK] at hat ⊢
          have Hat := Lib.hid hat; clear hat
          have HK := Lib.hid (And.intro hN' hK); clear hN' hK
          have i0 : (0 : Int) ≤ (j : Int) := Int.natCast_nonneg _
          have i1 : (j : Int) < (len : Int) := by omega
          have ej : wrap64 ((j : Int) + 1) = (j : Int) + 1 := by have := hlen.out; rw [IntWalk.wrap64_in _ (by omega)]
          have tN : ((N' : Int) == (q : Int)) = (N' == q) := by rw [Bool.eq_iff_iff, beq_iff_eq, beq_iff_eq]; omega
          cases hKc : K with
          | true =>
            go_wp2_with fail
            go_round
            case rel => exact ⟨j + 1, by rw [Hat.out, hKc]; rfl, by first | (rw [ej]; rfl) | rfl, by omega⟩
            case measure =>
              try rw [ej]
              show i - ((j : Int) + 1).toNat < i - ((j : Int)).toNat
              omega
          | false =>
            go_wp2_with fail
            go_round
            case rel => exact ⟨j + 1, by rw [Hat.out, hKc, ← tN]; rfl, by first | (rw [ej]; rfl) | rfl, by omega⟩
            case measure =>
              try rw [ej]
              show i - ((j : Int) + 1).toNat < i - ((j : Int)).toNat
              omega
        · obtain rfl : i = j := by omega
          obtain ⟨sh, hsh⟩ : ∃ z, z = (((l.take i).any fun s => s.N == q) || q == 2) := ⟨_, rfl⟩
          rw [← hsh]
          have hrk : L (ne - k) k left = _ := congrArg (fun r => L r k left) (show ne - k = (ne - (k + 1)) + 1 by omega)
          rw [HR.out, hLs.out] at hrk
          have hfi : f k = (sh && !(decide (0 < k) && decide (q ≤ s.Q.getD (k - 1) 0))) := by rw [hf.out, qOk, ← Hqe.out.1, shownF, ← hsh]
          have Hrk := Lib.hid hrk; clear hrk
          have Hfi := Lib.hid hfi; clear hfi
          have Hsh := Lib.hid hsh; clear hsh
          have hbad : Hid (f k = false → false = L ne 0 M) := Lib.hid fun h => by rw [Hrk.out, rOne, if_pos h]
          obtain ⟨lt, hlt1⟩ : ∃ z : Bool, z = decide (e < 1) := ⟨_, rfl⟩
          obtain ⟨bad, hbd⟩ : ∃ z : Bool, z = (!(f k) || lt) := ⟨_, rfl⟩
          have Hbd := Lib.hid (And.intro hbd hlt1)
          clear hbd
          have hlt2 := hlt1.symm
          clear hlt1
          go_upto_region 14 with fail
          go_cut [9, 100] (fun t9 t100 wx => (∃ v9, t9 = .bool v9) ∧ t100 = .bool bad ∧ wx = w1.drewN m)
          case first =>
            cases hsc : sh with
            | false =>
              have Hb : Hid (bad = true) := Lib.hid (by rw [Hbd.out.1, Hfi.out, hsc]; rfl)
              go_wp2_with fail
              go_meet
              case rel => exact ⟨⟨_, rfl⟩, by rw [Hb.out], rfl⟩
            | true =>
              by_cases hk0 : k = 0
              · have i3 : decide ((0 : Int) < (k : Int)) = false := decide_eq_false (by omega)
                have i4 : ¬ 0 < k := by omega
                have Hb : Hid (bad = lt) := Lib.hid (by rw [Hbd.out.1, Hfi.out, hsc, show decide (0 < k) = false from decide_eq_false i4]; cases lt <;> rfl)
                have Hk0 := Lib.hid hk0; clear hk0
                go_wp2_with fail
                go_meet
                case rel => exact ⟨⟨_, rfl⟩, by rw [Hb.out], rfl⟩
              · obtain ⟨j, hj⟩ : ∃ j, j + 1 = k := ⟨k - 1, by omega⟩
                have q0 := hq1.out.cells b rfl j (by rw [← hN.out.2.2.1]; omega)
                obtain ⟨q', hq'⟩ : ∃ q, q = s.Q.getD j 0 := ⟨_, rfl⟩
                rw [← hq'] at q0
                have i0 : (0 : Int) ≤ (j : Int) := Int.natCast_nonneg _
                have i2 : (j : Int) < (ne : Int) := by omega
                have i3 : decide ((0 : Int) < (k : Int)) = true := decide_eq_true (by omega)
                have i4 : 0 < k := by omega
                have ej : IntKind.i64.wrap ((k : Int) - 1) = (j : Int) := by have := hneb.out; rw [IntWalk.i64_in _ (by omega)]; omega
                have hjs : s.Q.getD (k - 1) 0 = q' := by rw [hq', ← hj, Nat.add_sub_cancel]
                have Hj := Lib.hid (And.intro hj hq'); clear hj hq'
                by_cases hqq : q ≤ q'
                · have t9 : decide (q ≤ q') = true := decide_eq_true hqq
                  have Hb : Hid (bad = true) := Lib.hid (by rw [Hbd.out.1, Hfi.out, hsc, hjs, show decide (0 < k) = true from decide_eq_true i4, t9]; rfl)
                  have Hqq := Lib.hid (And.intro hqq hjs); clear hqq hjs
                  go_wp2_with fail
                  go_meet
                  case rel => exact ⟨⟨_, rfl⟩, by rw [Hb.out], rfl⟩
                · have t9 : decide (q ≤ q') = false := decide_eq_false hqq
                  have Hb : Hid (bad = lt) := Lib.hid (by rw [Hbd.out.1, Hfi.out, hsc, hjs, show decide (0 < k) = true from decide_eq_true i4, t9]; cases lt <;> rfl)
                  have Hqq := Lib.hid (And.intro hqq hjs); clear hqq hjs
                  go_wp2_with fail
                  go_meet
                  case rel => exact ⟨⟨_, rfl⟩, by rw [Hb.out], rfl⟩
          case rest =>
            obtain ⟨⟨v9, rfl⟩, rfl, rfl⟩ := hcut
            cases hfk : f k with
            | false =>
              have Hfin := Lib.hid (hbad.out hfk)
              have hb2 : bad = true := by rw [Hbd.out.1, hfk]; rfl
              subst hb2
              go_wp2_with fail
              try rw [Exit.noGoto_ret]
              go_ret
              exact ⟨by rw [← Hfin.out]; rfl, below_drewN hb1.out _⟩
            | true =>
              have hok : Hid (f k = true) := Lib.hid hfk
              by_cases he1 : e < 1
              · have Hfin := Lib.hid (show false = L ne 0 M by rw [Hrk.out, rOne, if_neg (by rw [hok.out]; simp), ← Hqe.out.2, if_pos he1])
                have hb2 : bad = true := by rw [Hbd.out.1, ← hlt2, decide_eq_true he1, hfk]; rfl
                subst hb2
                clear he1
                go_wp2_with fail
                try rw [Exit.noGoto_ret]
                go_ret
                exact ⟨by rw [← Hfin.out]; rfl, below_drewN hb1.out _⟩
              have hb2 : bad = false := by rw [Hbd.out.1, ← hlt2, decide_eq_false he1, hfk]; rfl
              subst hb2
              have te : decide (e < 1) = false := decide_eq_false he1
              obtain ⟨mm, rfl⟩ : ∃ mm : Nat, e = (mm : Int) := ⟨e.toNat, by omega⟩
              have hrk2 : L ne 0 M = match (match divs q mm left with | none => none | some l' => if notOne G M N q = true then some l' else none) with | none => false | some l' => L (ne - (k + 1)) (k + 1) l' := by
                rw [Hrk.out, rOne, if_neg (by rw [hok.out]; simp), ← Hqe.out.2, if_neg he1, ← Hqe.out.1, Int.toNat_natCast]; rfl
              have Hrk2 := Lib.hid hrk2; clear hrk2 he1
              have Hq2 : Hid (2 ≤ q) := Lib.hid (by rw [Hqe.out.1]; exact hpos.out k hkn hok.out)
              go_wp2_with fail
              go_loop [6, 11] (fun t6 t11 => RDivRel q mm (divs q mm left) t6 t11) (fun _ t11 => mm - (intOf t11).toNat)
              case atStart => exact ⟨left, 0, rfl, rfl, Nat.zero_le _, ⟨Hlt.out.1, by have := Hlt.out.2; rw [Nat.pow_zero, Nat.mul_one]; exact this⟩, rfl⟩
              case round =>
                obtain ⟨l5, j5, rfl, rfl, hj5, hlt5, hd5⟩ := hrel
                have Hd := Lib.hid hd5; clear hd5
                have Hlt5 := Lib.hid hlt5; clear hlt5
                have hsm := div_small Hlt5.out
                by_cases hjm : j5 < mm
                · have tj : decide (j5 < mm) = true := decide_eq_true hjm
                  have hst3 : divs q (mm - j5) l5 = _ := congrArg (fun x => divs q x l5) (show mm - j5 = (mm - (j5 + 1)) + 1 by omega)
                  have hq2 := Hq2.out
                  have hq0 : (q : Int) ≠ 0 := by omega
                  by_cases hdv : l5 % q = 0
                  · rw [divs_step hdv] at hst3
                    have Hst3 := Lib.hid hst3; clear hst3
                    have t3 : ((l5 : Int) % (q : Int) == 0) = true := by rw [beq_iff_eq]; omega
                    obtain ⟨l6, hl6⟩ : ∃ l', l' = l5 / q := ⟨_, rfl⟩
                    have em : (l5 : Int) / (q : Int) = (l6 : Int) := by rw [hl6, Int.natCast_ediv]
                    have hhalf := div_half2 hq2 Hlt5.out hdv
                    rw [← hl6] at hhalf
                    have em' : IntKind.u64.wrap (l6 : Int) = (l6 : Int) := IntWalk.u64_in _ (by have := (div_small hhalf).2; omega)
                    have ej5 : wrap64 ((j5 : Int) + 1) = (j5 : Int) + 1 := by rw [IntWalk.wrap64_in _ (by omega)]
                    have Hx := Lib.hid (And.intro hl6 (And.intro hhalf hdv)); clear hl6 hhalf hdv hq2 hsm
                    go_wp2_with fail
                    go_round
                    case rel => exact ⟨l6, j5 + 1, rfl, by first | (rw [ej5]; rfl) | rfl, by omega, Hx.out.2.1, by rw [← Hd.out, Hst3.out, Hx.out.1]⟩
                    case measure =>
                      try rw [ej5]
                      show mm - ((j5 : Int) + 1).toNat < mm - ((j5 : Int)).toNat
                      omega
                  · rw [divs_stop hdv] at hst3
                    have t3 : ((l5 : Int) % (q : Int) == 0) = false := by rw [beq_eq_false_iff_ne]; omega
                    have Hfin := Lib.hid (show false = L ne 0 M by rw [Hrk2.out, ← Hd.out, hst3])
                    clear hst3 hdv hq2 hsm
                    go_wp2_with fail
                    try rw [Exit.noGoto_ret]
                    go_ret
                    exact ⟨by rw [← Hfin.out]; rfl, below_drewN hb1.out _⟩
                · obtain rfl : mm = j5 := by omega
                  have Hk1 := Lib.hid (And.intro (show k + 1 ≤ ne by omega) (show ne - ((k : Int) + 1).toNat < ne - ((k : Int)).toNat by omega))
                  have hd5 := Hd.out
                  rw [Nat.sub_self] at hd5
                  obtain ⟨no, hno⟩ : ∃ z, z = notOne G M N q := ⟨_, rfl⟩
                  have hrk3 : L ne 0 M = match (if no = true then some l5 else none) with | none => false | some l' => L (ne - (k + 1)) (k + 1) l' := by
                    rw [Hrk2.out, ← hd5, hno]; rfl
                  have Hrk3 := Lib.hid hrk3; clear hrk3 hd5
                  have hq2 := Hq2.out
                  have hq0 : (q : Int) ≠ 0 := by omega
                  have hq0' : ¬ q = 0 := by omega
                  obtain ⟨d, hd⟩ : ∃ d, d = M / q := ⟨_, rfl⟩
                  obtain ⟨R, hR2⟩ : ∃ R, R = G ^ d % N := ⟨_, rfl⟩
                  have em : (M : Int) / (q : Int) = (d : Int) := by rw [hd, Int.natCast_ediv]
                  have hdb : d < 9223372036854775808 := by rw [hd]; exact Nat.lt_of_le_of_lt (Nat.div_le_self _ _) hM.out.2
                  have em' : IntKind.u64.wrap (d : Int) = (d : Int) := IntWalk.u64_in _ (by omega)
                  have CR : Hid (∀ W, Calls Tryd.prog 16 #[.int .u64 G, .int .u64 d, .int .u64 N] W fun e w' => e = .returned (.int .u64 (R : Int)) ∧ W = w') := Lib.hid fun W => by rw [hR2]; exact rpower_any G d N W (by have := hNb.out; omega) (by have := hNb.out; omega) (by omega)
                  have hR1 : ((R : Int) == 1) = (R == 1) := by rw [Bool.eq_iff_iff, beq_iff_eq, beq_iff_eq]; omega
                  have hnoR : no = !(R == 1) := by rw [hno, notOne, hR2, hd]
                  have eN := eNH.out
                  have ek : wrap64 ((k : Int) + 1) = (k : Int) + 1 := by have := hneb.out; rw [IntWalk.wrap64_in _ (by omega)]
                  have Hd2 := Lib.hid (And.intro hd (And.intro hR2 (And.intro hdb (And.intro hq2 (And.intro hno hsm))))); clear hd hR2 hdb hq2 hno hsm
                  cases hbR : (R == 1) with
                  | false =>
                    have Hnext := Lib.hid (show L (ne - (k + 1)) (k + 1) l5 = L ne 0 M by rw [Hrk3.out, hnoR, hbR]; rfl)
                    rw [hbR] at hR1
                    clear hbR hnoR
                    go_wp2_with fail
                    go_quiet ((go_at_call 16; refine (CR.out _).mono ?_; rintro e w3 ⟨he3, hm3⟩; exact ⟨he3, _, hm3.symm⟩))
                    go_wp2_with fail
                    go_roundw
                    case rel => exact ⟨l5, k + 1, m + nq, rfl, by first | (rw [ek]; rfl) | rfl, Hk1.out.1, ⟨Hlt5.out.1, Hd2.out.2.2.2.2.2.2⟩, by first | rfl | rw [World.drewN_drewN], Hnext.out⟩
                    case measure =>
                      try rw [ek]
                      exact Hk1.out.2
                  | true =>
                    have Hfin := Lib.hid (show false = L ne 0 M by rw [Hrk3.out, hnoR, hbR]; rfl)
                    rw [hbR] at hR1
                    clear hbR hnoR
                    go_wp2_with fail
                    go_quiet ((go_at_call 16; refine (CR.out _).mono ?_; rintro e w3 ⟨he3, hm3⟩; exact ⟨he3, _, hm3.symm⟩))
                    go_wp2_with fail
                    try rw [Exit.noGoto_ret]
                    go_ret
                    exact ⟨by rw [← Hfin.out]; rfl, below_drewN (below_drewN hb1.out _) _⟩
    · obtain rfl : ne = k := by omega
      have hfin := HR.out
      rw [Nat.sub_self] at hfin
      have hfin2 := (hL0.out ne left).symm.trans hfin
      have Hf := Lib.hid hfin2; clear hfin hfin2
      have tl : ((left : Int) == 1) = (left == 1) := by rw [Bool.eq_iff_iff, beq_iff_eq, beq_iff_eq]; omega
      cases hlb : (left == 1) with
      | false =>
        rw [hlb] at tl
        go_wp2_with fail
        go_ret
        exact ⟨by rw [← Hf.out, hlb]; rfl, below_drewN hb1.out _⟩
      | true =>
        rw [hlb] at tl
        have eN2 := eNH.out
        go_wp2_with fail
        refine (cP.out _).mono ?_
        rintro e w5 ⟨rfl, rfl⟩
        go_wp2_with fail
        go_ret
        exact ⟨by rw [← Hf.out, hlb, ← hP1]; rfl, below_drewN hb1.out _⟩
end Go.Proofs.YtpphfeinmmmckaaDoor
