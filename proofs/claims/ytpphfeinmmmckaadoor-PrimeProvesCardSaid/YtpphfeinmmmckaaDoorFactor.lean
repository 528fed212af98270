/-
  The walk of prime.Factor: it hands back two slices of its own.
-/
import Derived.Test.YtpphfeinmmmckaaDoorIs
import Derived.Test.YtpphfeinmmmckaaDoorFac
namespace Go.Proofs.YtpphfeinmmmckaaDoor
open Go.RowKit

theorem Tryd.info22 : (Tryd.prog.info? 22).map (fun i => (i.zero, i.size, i.bytes)) = some (some (.int .u64 0), 1, 8) := by kernel_rfl
theorem Tryd.info3 : (Tryd.prog.info? 3).map (fun i => (i.zero, i.size, i.bytes)) = some (some (.int .i64 0), 1, 8) := by kernel_rfl

/-- Two slices of the call's own hold a list of primes and how often each stands. -/
structure OwnPair (B : Nat) (wr : World) (v2 v3 : Value) (l : List (Nat × Nat)) : Prop where
  q : wr.ownsRow B 22 1 v2 l.length (l.map fun x => .int .u64 (x.1 : Int))
  e : wr.ownsRow B 3 1 v3 l.length (l.map fun x => .int .i64 (x.2 : Int))

/-- Rows of two element types never share a block. -/
theorem rows_apart {w : World} {B B' e e' sz sz' n n' : Nat} {v v' : Value} {xs xs' : List Value} (h : w.ownsRow B e sz v n xs) (h' : w.ownsRow B' e' sz' v' n' xs') (hne : e ≠ e') :
    v.ownBlock = none ∨ v.ownBlock ≠ v'.ownBlock := by
  rcases h.2 with ⟨rfl, _⟩ | ⟨g, cap, cur, rfl, _, hg, _⟩
  · exact .inl rfl
  · rcases h'.2 with ⟨rfl, _⟩ | ⟨g', cap', cur', rfl, _, hg', _⟩
    · exact .inr (by simp [Value.ownBlock])
    · refine .inr ?_
      simp only [Value.ownBlock, ne_eq, Option.some.injEq]
      rintro rfl
      rw [hg] at hg'
      simp only [Option.some.injEq, Obj.cells.injEq] at hg'
      exact hne hg'.2.1

/-- A cell of a new block of one. -/
theorem new_one (w : World) (v : Value) (t : TypeId) : ∀ j u, ([v] : List Value)[j]? = some u → (w.alloc (.cells #[v] t)).cell? ((⟨w.heap.size, 0, none⟩ : Addr).add j) = some u := by
  intro j u hu
  match j, hu with
  | 0, hu =>
    simp at hu; subst hu
    simp [Addr.add, World.cell?_alloc_new]

theorem one_u64 (p : Nat) : ∀ u ∈ [Value.int .u64 (p : Int)], u.oneCell' = true := by intro u hu; simp at hu; subst hu; rfl
theorem one_i64 (p : Nat) : ∀ u ∈ [Value.int .i64 (p : Int)], u.oneCell' = true := by intro u hu; simp at hu; subst hu; rfl

def FacRel (B : Nat) (w : World) (T : List (Nat × Nat)) (g : Nat) (t0 t2 t3 t5 : Value) (wr : World) : Prop :=
  ∃ (n p : Nat) (acc : List (Nat × Nat)), t0 = .int .u64 n ∧ t5 = .int .u64 p ∧ 1 ≤ n ∧ n ≤ 1099511627776 ∧ 2 ≤ p ∧ (n = 1 ∨ (p + g = 1048579 ∧ p ≤ 1048577)) ∧ acc.length + g ≤ 1048577 ∧
    acc ++ facLoop g n p = T ∧ OwnPair B wr t2 t3 acc ∧ Below B w wr

theorem next_ok {n p p' gO m k : Nat} (hpb : p ≤ 1048577 ∧ p + gO = 1048579) (hn : 1 ≤ n ∧ n ≤ 1099511627776) (hp' : p' = if n < p * p then n else p) (hn1 : ¬ n = 1) (hp2 : 2 ≤ p')
    (hs : 1 ≤ m ∧ m % p' ≠ 0 ∧ 0 ≤ k ∧ n = m * p' ^ (k - 0) ∧ (n % p' = 0 → 0 < k)) : m = 1 ∨ (p' + 1 + (gO - 1) = 1048579 ∧ p' + 1 ≤ 1048577) := by
  by_cases h : n < p * p
  · rw [if_pos h] at hp'
    subst hp'
    refine .inl ?_
    have hk := hs.2.2.2.2 (Nat.mod_self p')
    have e := hs.2.2.2.1
    have h1 : p' * m ≤ p' := by
      calc p' * m = m * p' ^ 1 := by rw [Nat.pow_one, Nat.mul_comm]
        _ ≤ m * p' ^ (k - 0) := Nat.mul_le_mul_left _ (Nat.pow_le_pow_right (by omega) (by omega))
        _ = p' := e.symm
    have h2 : m ≤ 1 := by
      have : p' * m ≤ p' * 1 := by omega
      exact Nat.le_of_mul_le_mul_left this (by omega)
    omega
  · rw [if_neg h] at hp'
    subst hp'
    refine .inr ⟨?_, ?_⟩
    · have : p' ≤ 1048576 := by
        rcases Nat.lt_or_ge 1048576 p' with hc | hc
        · have : 1048577 * 1048577 ≤ p' * p' := Nat.mul_le_mul hc hc
          omega
        · exact hc
      omega
    · rcases Nat.lt_or_ge 1048576 p' with hc | hc
      · have : 1048577 * 1048577 ≤ p' * p' := Nat.mul_le_mul hc hc
        omega
      · omega

def DivOutRel (p : Nat) (R : Nat × Nat) (wo : World) (g : Nat) (t0 t6 : Value) (wr : World) : Prop :=
  ∃ n k : Nat, t0 = .int .u64 n ∧ t6 = .int .i64 k ∧ divOut p g n k = R ∧ 1 ≤ n ∧ n < 2 ^ g ∧ k + g = 64 ∧ n ≤ 1099511627776 ∧ wr = wo

set_option maxRecDepth 100000 in
set_option maxHeartbeats 1000000 in
theorem factor_in (N : Nat) (w : World) (e1 : decide ((N : Int) < 1) = false) (e2 : decide ((1099511627776 : Int) < (N : Int)) = false) (hN : Hid (1 ≤ N ∧ N ≤ 1099511627776)) :
    Calls Tryd.prog 19 #[.int .u64 N] w fun e w' => ∃ v2 v3, e = .returned (.tuple #[v2, v3, .int .i64 0]) ∧ OwnPair w.heap.size w' v2 v3 (facs N) ∧ Below w.heap.size w w' := by
  obtain ⟨i22, hi22, hy0, hy1, hy2⟩ := info_parts Tryd.info22
  obtain ⟨i3, hi3, hz0, hz1, hz2⟩ := info_parts Tryd.info3
  obtain ⟨T, hT⟩ : ∃ T, T = facs N := ⟨_, rfl⟩
  rw [← hT]
  have HT := Lib.hid hT; clear hT
  go_enter Tryd.func19, Tryd.ntmps19
  go_wp2_with fail
  go_loopg [0, 2, 3, 5] 1048577 (fun g t0 t2 t3 t5 wr => FacRel w.heap.size w T g t0 t2 t3 t5 wr)
  case atStart => exact ⟨N, 2, [], rfl, rfl, hN.out.1, hN.out.2, by omega, .inr ⟨rfl, by omega⟩, by simp, HT.out.symm, ⟨World.ownsRow_nil _ _ _ _, World.ownsRow_nil _ _ _ _⟩, Below.refl _ _⟩
  case round =>
    obtain ⟨gO, rfl⟩ : ∃ g, g = gk := ⟨_, rfl⟩
    obtain ⟨wo, rfl⟩ : ∃ w', w' = wr := ⟨_, rfl⟩
    obtain ⟨n, p, acc, rfl, rfl, hn1, hn2, hp, hpg, hacc, htot, hown, hbel⟩ := hrel
    have Hn := Lib.hid (And.intro hn1 hn2); clear hn1 hn2
    have Hpg := Lib.hid hpg; clear hpg
    have Hacc := Lib.hid hacc; clear hacc
    have Htot := Lib.hid htot; clear htot
    have Hown := Lib.hid hown; clear hown
    have Hbel := Lib.hid hbel; clear hbel
    have Hp := Lib.hid hp; clear hp
    by_cases hn : n = 1
    · have t1 : decide ((1 : Int) < (n : Int)) = false := by simp; omega
      have Hn1 := Lib.hid hn; clear hn
      go_wp2_with fail
      go_ret3
      exact ⟨_, _, rfl, by rw [← Htot.out, Hn1.out, facLoop_one, List.append_nil]; exact Hown.out, Hbel.out⟩
    · have t1 : decide ((1 : Int) < (n : Int)) = true := by have := Hn.out; simp; omega
      have Hn1 := Lib.hid hn; clear hn
      obtain ⟨P2, hP2⟩ : ∃ P2, P2 = p * p := ⟨_, rfl⟩
      have hpb : p ≤ 1048577 ∧ p + gO = 1048579 := by rcases Hpg.out with h | h; exact absurd h Hn1.out; omega
      have hPb : p * p ≤ 1048577 * 1048577 := Nat.mul_le_mul hpb.1 hpb.1
      have ep : IntKind.u64.wrap ((p : Int) * (p : Int)) = (P2 : Int) := by rw [IntKind.wrap_u64, ← Int.natCast_mul, ← hP2]; omega
      have HP2 := Lib.hid hP2; clear hP2
      have Hpb := Lib.hid hpb; clear hpb hPb
      obtain ⟨p', hp'⟩ : ∃ p', p' = if n < P2 then n else p := ⟨_, rfl⟩
      go_upto_if 21 with fail
      go_cut [5] (fun t5 wx => t5 = .int .u64 p' ∧ wx = wo)
      case first =>
        by_cases hb : n < P2
        · rw [if_pos hb] at hp'
          have t2 : decide (n < P2) = true := by simp [hb]
          have Hb := Lib.hid hb; clear hb
          have Hp' := Lib.hid hp'; clear hp'
          go_wp2_with fail
          go_meet
          case rel => exact ⟨by rw [Hp'.out], rfl⟩
        · rw [if_neg hb] at hp'
          have t2 : decide (n < P2) = false := by simp; omega
          have Hb := Lib.hid hb; clear hb
          have Hp' := Lib.hid hp'; clear hp'
          go_wp2_with fail
          go_meet
          case rel => exact ⟨by rw [Hp'.out], rfl⟩
      case rest =>
        obtain ⟨rfl, rfl⟩ := hcut
        have hp2 : 2 ≤ p' := by have := Hn.out; have := Hn1.out; have := Hp.out; rw [hp']; split <;> omega
        have hp0 : (p' : Int) ≠ 0 := by omega
        have ep1 : IntKind.u64.wrap ((p' : Int) + 1) = (p' : Int) + 1 := by
          have : p' ≤ 1099511627776 := by have := Hn.out; have := Hpb.out; rw [hp']; split <;> omega
          rw [IntKind.wrap_u64]; omega
        obtain ⟨⟨N', K'⟩, hR⟩ : ∃ R, R = divOut p' 64 n 0 := ⟨_, rfl⟩
        have hspec := divOut_spec hp2 (f := 64) (k := 0) Hn.out.1 (by have := Hn.out.2; omega)
        rw [← hR] at hspec
        have Hspec := Lib.hid hspec; clear hspec
        have hstep : facLoop gO n p = if 0 < K' then (p', K') :: facLoop (gO - 1) N' (p' + 1) else facLoop (gO - 1) N' (p' + 1) := by
          obtain ⟨g', rfl⟩ : ∃ g', gO = g' + 1 := ⟨gO - 1, by have := Hpb.out; omega⟩
          rw [facLoop_succ (by have := Hn.out; have := Hn1.out; omega), ← HP2.out, ← hp', ← hR]
          rfl
        have Hstep := Lib.hid hstep; clear hstep
        have HR := Lib.hid hR; clear hR
        have Hp' := Lib.hid hp'; clear hp' t1 ep
        go_wp2_with fail
        go_loopg [0, 6] 64 (fun g t0 t6 wr => DivOutRel p' (N', K') wc g t0 t6 wr)
        case atStart => exact ⟨n, 0, rfl, rfl, HR.out.symm, Hn.out.1, by have := Hn.out.2; omega, rfl, Hn.out.2, rfl⟩
        case round =>
          obtain ⟨m, k, rfl, rfl, hd, hm, hmg, hkg, hm2, rfl⟩ := hrel
          have Hd := Lib.hid hd; clear hd
          have Hmg := Lib.hid hmg; clear hmg
          have Hm := Lib.hid hm; clear hm
          have Hm2 := Lib.hid hm2; clear hm2
          by_cases hdiv : m % p' = 0
          · have t3 : ((m : Int) % (p' : Int) == 0) = true := by rw [beq_iff_eq]; omega
            obtain ⟨m', hm'⟩ : ∃ m', m' = m / p' := ⟨_, rfl⟩
            have em : (m : Int) / (p' : Int) = (m' : Int) := by rw [hm', Int.natCast_ediv]
            have hle : m' ≤ m := by rw [hm']; exact Nat.div_le_self _ _
            have em' : IntKind.u64.wrap (m' : Int) = (m' : Int) := by rw [IntKind.wrap_u64]; have := Hm2.out; omega
            have Hle := Lib.hid hle; clear hle
            have Hdiv := Lib.hid hdiv; clear hdiv
            have Hm' := Lib.hid hm'; clear hm'
            have hgk : 1 ≤ gk := by
              rcases Nat.eq_zero_or_pos gk with h0 | h0
              · have h1 := Hmg.out; rw [h0] at h1; have := Hm.out; omega
              · exact h0
            go_wp2_with fail
            go_roundg (gk - 1)
            case rel =>
              obtain ⟨g', rfl⟩ : ∃ g', gk = g' + 1 := ⟨gk - 1, by omega⟩
              exact ⟨m', k + 1, rfl, by go_num, by rw [← Hd.out, divOut_step Hdiv.out, Hm'.out]; rfl, by rw [Hm'.out]; exact div_pos_of_mod Hm.out Hdiv.out, by rw [Hm'.out]; exact div_half hp2 Hmg.out, by omega, by have := Hle.out; have := Hm2.out; omega, rfl⟩
            case measure => omega
          · have t3 : ((m : Int) % (p' : Int) == 0) = false := by rw [beq_eq_false_iff_ne]; omega
            have hR2 := Hd.out
            rw [divOut_stop hdiv] at hR2
            simp only [Prod.mk.injEq] at hR2
            obtain ⟨rfl, rfl⟩ := hR2
            clear hdiv
            by_cases hk : 0 < k
            · have t4 : decide ((0 : Int) < (k : Int)) = true := by simp; omega
              have hlen : acc.length + 1 ≤ 1048577 := by have := Hacc.out; have := Hpb.out; omega
              have Hlen := Lib.hid hlen; clear hlen
              go_wp2_with (at_builtin; refine Hid.out ?_)
              refine Lib.hid ?_
              refine wpList_append_own _ rfl (.tmp 34) (.tmp 36) 33 rfl w.heap.size 22 i22 (.int .u64 0) 1 8 Tryd.underlying33 hi22 hy0 hy1 hy2 rfl (by decide) _ _ _ rfl (Hown.out.q.alloc _) ⟨wr.heap.size, 0, none⟩ 1 1 [.int .u64 p'] rfl rfl (new_one _ _ _) (one_u64 _)
                (by have := Hlen.out; unfold maxLen; omega) (by have := Hlen.out; omega) (by have := Hbel.out.size; simp; omega) fun v2' w2 hown2 hgrow2 _ => ?_
              have hown2e := (Hown.out.e.alloc (.cells #[.int .u64 p'] 22)).kept hgrow2 (rows_apart Hown.out.e Hown.out.q (by decide))
              have hb2 : Below w.heap.size w w2 := (Hbel.out.alloc Hbel.out.size _).grown hgrow2 (by have := Hbel.out.size; simp; omega) (fun k hk => (Hown.out.q.lt k hk).1)
              have Ho2 := Lib.hid hown2; clear hown2
              have Ho2e := Lib.hid hown2e; clear hown2e hgrow2
              have Hb2 := Lib.hid hb2; clear hb2
              go_wp2_with (at_builtin; refine Hid.out ?_)
              refine Lib.hid ?_
              refine wpList_append_own _ rfl (.tmp 38) (.tmp 40) 34 rfl w.heap.size 3 i3 (.int .i64 0) 1 8 Tryd.underlying34 hi3 hz0 hz1 hz2 rfl (by decide) _ _ _ rfl (Ho2e.out.alloc _) ⟨w2.heap.size, 0, none⟩ 1 1 [.int .i64 k] rfl rfl (new_one _ _ _) (one_i64 _)
                (by have := Hlen.out; unfold maxLen; omega) (by have := Hlen.out; omega) (by have := Hb2.out.size; simp; omega) fun v3' w3 hown3 hgrow3 _ => ?_
              have hb3 : Below w.heap.size w w3 := (Hb2.out.alloc Hb2.out.size _).grown hgrow3 (by have := Hb2.out.size; simp; omega) (fun k hk => (Ho2e.out.lt k hk).1)
              have hown3q := (Ho2.out.alloc (.cells #[.int .i64 k] 3)).kept hgrow3 (rows_apart Ho2.out Ho2e.out (by decide))
              have hpair : OwnPair w.heap.size w3 v2' v3' (acc ++ [(p', k)]) := ⟨by simpa using hown3q, by simpa using hown3⟩
              have Hb3 := Lib.hid hb3; clear hb3
              have Hpair := Lib.hid hpair; clear hpair hown3 hgrow3 hown3q
              go_wp2_with fail
              go_roundg (gO - 1)
              case rel =>
                refine ⟨m, p' + 1, acc ++ [(p', k)], rfl, by go_num, Hspec.out.1, Hm2.out, by omega, ?_, by have := Hlen.out; have := Hacc.out; have := Hpb.out; simp; omega, ?_, Hpair.out, Hb3.out⟩
                · exact next_ok Hpb.out Hn.out (by rw [← HP2.out]; exact Hp'.out) Hn1.out hp2 (by exact Hspec.out)
                · rw [List.append_assoc, ← Htot.out, Hstep.out, if_pos hk]; rfl
              case measure => have := Hpb.out; omega
            · have t4 : decide ((0 : Int) < (k : Int)) = false := by simp; omega
              go_wp2_with fail
              go_roundg (gO - 1)
              case rel =>
                refine ⟨m, p' + 1, acc, rfl, by go_num, Hspec.out.1, Hm2.out, by omega, ?_, by have := Hacc.out; have := Hpb.out; omega, ?_, Hown.out, Hbel.out⟩
                · exact next_ok Hpb.out Hn.out (by rw [← HP2.out]; exact Hp'.out) Hn1.out hp2 (by exact Hspec.out)
                · rw [← Htot.out, Hstep.out, if_neg hk]
              case measure => have := Hpb.out; omega
end Go.Proofs.YtpphfeinmmmckaaDoor
