/-
  Several texts in one (merge.py): the contracts of Factor, of Next, of the reference's Is.
-/
import Derived.Test.YtpphfeinmmmckaaDoorMPow
import Derived.Test.YtpphfeinmmmckaaDoorNt

/- Fac: Plain: what both Factor functions compute: trial by rising divisors; no program in sight. -/
namespace Go.Proofs.YtpphfeinmmmckaaDoor

/-- p divided out of n, again and again: what is left, and how often (k more). -/
def divOut (p : Nat) : Nat → Nat → Nat → Nat × Nat
  | 0, n, k => (n, k)
  | f + 1, n, k => if n % p = 0 then divOut p f (n / p) (k + 1) else (n, k)

/-- The primes from p on that divide n, and how often. -/
def facLoop : Nat → Nat → Nat → List (Nat × Nat)
  | 0, _, _ => []
  | f + 1, n, p =>
    if n ≤ 1 then []
    else
      let p' := if n < p * p then n else p
      let r := divOut p' 64 n 0
      if 0 < r.2 then (p', r.2) :: facLoop f r.1 (p' + 1) else facLoop f r.1 (p' + 1)

/-- What Factor answers of a number from 1 to 2^40. -/
def facs (n : Nat) : List (Nat × Nat) := facLoop 1048577 n 2

theorem divOut_step {p f n k : Nat} (h : n % p = 0) : divOut p (f + 1) n k = divOut p f (n / p) (k + 1) := by rw [divOut, if_pos h]
theorem divOut_stop {p f n k : Nat} (h : n % p ≠ 0) : divOut p f n k = (n, k) := by
  cases f with
  | zero => rfl
  | succ f => rw [divOut, if_neg h]

theorem facLoop_succ {f n p : Nat} (h : ¬ n ≤ 1) : facLoop (f + 1) n p =
    if 0 < (divOut (if n < p * p then n else p) 64 n 0).2 then ((if n < p * p then n else p), (divOut (if n < p * p then n else p) 64 n 0).2) :: facLoop f (divOut (if n < p * p then n else p) 64 n 0).1 ((if n < p * p then n else p) + 1)
    else facLoop f (divOut (if n < p * p then n else p) 64 n 0).1 ((if n < p * p then n else p) + 1) := by rw [facLoop, if_neg h]
theorem facLoop_one (g p : Nat) : facLoop g 1 p = [] := by cases g <;> simp [facLoop]

theorem div_half {n p g : Nat} (hp : 2 ≤ p) (h : n < 2 ^ (g + 1)) : n / p < 2 ^ g := by
  refine (Nat.div_lt_iff_lt_mul (by omega)).2 ?_
  have : 2 ^ g * 2 ≤ 2 ^ g * p := Nat.mul_le_mul_left _ hp
  rw [Nat.pow_succ] at h
  omega

theorem div_pos_of_mod {n p : Nat} (hn : 1 ≤ n) (h : n % p = 0) : 1 ≤ n / p := by
  rcases Nat.eq_zero_or_pos (n / p) with h0 | h0
  · have := Nat.div_add_mod n p
    rw [h0, h, Nat.mul_zero] at this
    omega
  · exact h0

/-- What dividing out leaves: a number from 1 on, not divisible any more. -/
theorem divOut_spec {p : Nat} (hp : 2 ≤ p) : ∀ {f n k : Nat}, 1 ≤ n → n < 2 ^ f →
    1 ≤ (divOut p f n k).1 ∧ (divOut p f n k).1 % p ≠ 0 ∧ k ≤ (divOut p f n k).2 ∧ n = (divOut p f n k).1 * p ^ ((divOut p f n k).2 - k) ∧ (n % p = 0 → k < (divOut p f n k).2) := by
  intro f
  induction f with
  | zero => intro n k h1 h2; simp at h2; omega
  | succ f ih =>
    intro n k h1 h2
    by_cases h : n % p = 0
    · rw [divOut_step h]
      obtain ⟨a, b, c, d, _⟩ := ih (k := k + 1) (div_pos_of_mod h1 h) (div_half hp h2)
      refine ⟨a, b, by omega, ?_, fun _ => by omega⟩
      have e : (divOut p f (n / p) (k + 1)).2 - k = (divOut p f (n / p) (k + 1)).2 - (k + 1) + 1 := by omega
      rw [e, Nat.pow_succ, ← Nat.mul_assoc, ← d]
      exact (Nat.div_mul_cancel (Nat.dvd_of_mod_eq_zero h)).symm
    · rw [divOut_stop h]
      refine ⟨h1, h, Nat.le_refl _, by simp, fun h' => absurd h' h⟩

end Go.Proofs.YtpphfeinmmmckaaDoor

/- Factor: The walk of prime.Factor: it hands back two slices of its own. -/
namespace Go.Proofs.YtpphfeinmmmckaaDoor
open Go.RowKit

theorem Tryd.info22 : (Tryd.prog.info? 22).map (fun i => (i.zero, i.size, i.bytes)) = some (some (.int .u64 0), 1, 8) := by kernel_rfl
theorem Tryd.info3 : (Tryd.prog.info? 3).map (fun i => (i.zero, i.size, i.bytes)) = some (some (.int .i64 0), 1, 8) := by kernel_rfl

/-- Two slices of the call's own hold a list of primes and how often each stands. -/
structure OwnPair (B : Nat) (wr : World) (v2 v3 : Value) (l : List (Nat × Nat)) : Prop where
  q : wr.ownsRow B 22 1 v2 l.length (l.map fun x => .int .u64 (x.1 : Int))
  e : wr.ownsRow B 3 1 v3 l.length (l.map fun x => .int .i64 (x.2 : Int))

/-- Rows of two element types never share a block. -/
theorem rows_apart {w : World} {B B' e e' sz sz' n n' : Nat} {v v' : Value} {xs xs' : List Value} (h : w.ownsRow B e sz v n xs) (h' : w.ownsRow B' e' sz' v' n' xs') (hne : e ≠ e') :
    v.ownBlock = none ∨ v.ownBlock ≠ v'.ownBlock := by
  rcases h.2 with ⟨rfl, _⟩ | ⟨g, cap, cur, rfl, _, hg, _⟩
  · exact .inl rfl
  · rcases h'.2 with ⟨rfl, _⟩ | ⟨g', cap', cur', rfl, _, hg', _⟩
    · exact .inr (by simp [Value.ownBlock])
    · refine .inr ?_
      simp only [Value.ownBlock, ne_eq, Option.some.injEq]
      rintro rfl
      rw [hg] at hg'
      simp only [Option.some.injEq, Obj.cells.injEq] at hg'
      exact hne hg'.2.1

/-- A cell of a new block of one. -/
theorem new_one (w : World) (v : Value) (t : TypeId) : ∀ j u, ([v] : List Value)[j]? = some u → (w.alloc (.cells #[v] t)).cell? ((⟨w.heap.size, 0, none⟩ : Addr).add j) = some u := by
  intro j u hu
  match j, hu with
  | 0, hu =>
    simp at hu; subst hu
    simp [Addr.add, World.cell?_alloc_new]

theorem one_u64 (p : Nat) : ∀ u ∈ [Value.int .u64 (p : Int)], u.oneCell' = true := by intro u hu; simp at hu; subst hu; rfl
theorem one_i64 (p : Nat) : ∀ u ∈ [Value.int .i64 (p : Int)], u.oneCell' = true := by intro u hu; simp at hu; subst hu; rfl

def FacRel (B : Nat) (w : World) (T : List (Nat × Nat)) (g : Nat) (t0 t2 t3 t5 : Value) (wr : World) : Prop :=
  ∃ (n p : Nat) (acc : List (Nat × Nat)), t0 = .int .u64 n ∧ t5 = .int .u64 p ∧ 1 ≤ n ∧ n ≤ 1099511627776 ∧ 2 ≤ p ∧ (n = 1 ∨ (p + g = 1048579 ∧ p ≤ 1048577)) ∧ acc.length + g ≤ 1048577 ∧
    acc ++ facLoop g n p = T ∧ OwnPair B wr t2 t3 acc ∧ Below B w wr

theorem next_ok {n p p' gO m k : Nat} (hpb : p ≤ 1048577 ∧ p + gO = 1048579) (hn : 1 ≤ n ∧ n ≤ 1099511627776) (hp' : p' = if n < p * p then n else p) (hn1 : ¬ n = 1) (hp2 : 2 ≤ p')
    (hs : 1 ≤ m ∧ m % p' ≠ 0 ∧ 0 ≤ k ∧ n = m * p' ^ (k - 0) ∧ (n % p' = 0 → 0 < k)) : m = 1 ∨ (p' + 1 + (gO - 1) = 1048579 ∧ p' + 1 ≤ 1048577) := by
  by_cases h : n < p * p
  · rw [if_pos h] at hp'
    subst hp'
    refine .inl ?_
    have hk := hs.2.2.2.2 (Nat.mod_self p')
    have e := hs.2.2.2.1
    have h1 : p' * m ≤ p' := by
      calc p' * m = m * p' ^ 1 := by rw [Nat.pow_one, Nat.mul_comm]
        _ ≤ m * p' ^ (k - 0) := Nat.mul_le_mul_left _ (Nat.pow_le_pow_right (by omega) (by omega))
        _ = p' := e.symm
    have h2 : m ≤ 1 := by
      have : p' * m ≤ p' * 1 := by omega
      exact Nat.le_of_mul_le_mul_left this (by omega)
    omega
  · rw [if_neg h] at hp'
    subst hp'
    refine .inr ⟨?_, ?_⟩
    · have : p' ≤ 1048576 := by
        rcases Nat.lt_or_ge 1048576 p' with hc | hc
        · have : 1048577 * 1048577 ≤ p' * p' := Nat.mul_le_mul hc hc
          omega
        · exact hc
      omega
    · rcases Nat.lt_or_ge 1048576 p' with hc | hc
      · have : 1048577 * 1048577 ≤ p' * p' := Nat.mul_le_mul hc hc
        omega
      · omega

def DivOutRel (p : Nat) (R : Nat × Nat) (wo : World) (g : Nat) (t0 t6 : Value) (wr : World) : Prop :=
  ∃ n k : Nat, t0 = .int .u64 n ∧ t6 = .int .i64 k ∧ divOut p g n k = R ∧ 1 ≤ n ∧ n < 2 ^ g ∧ k + g = 64 ∧ n ≤ 1099511627776 ∧ wr = wo

set_option maxRecDepth 100000 in
set_option maxHeartbeats 1000000 in
theorem factor_in (N : Nat) (w : World) (e1 : decide ((N : Int) < 1) = false) (e2 : decide ((1099511627776 : Int) < (N : Int)) = false) (hN : Hid (1 ≤ N ∧ N ≤ 1099511627776)) :
    Calls Tryd.prog 19 #[.int .u64 N] w fun e w' => ∃ v2 v3, e = .returned (.tuple #[v2, v3, .int .i64 0]) ∧ OwnPair w.heap.size w' v2 v3 (facs N) ∧ Below w.heap.size w w' := by
  obtain ⟨i22, hi22, hy0, hy1, hy2⟩ := info_parts Tryd.info22
  obtain ⟨i3, hi3, hz0, hz1, hz2⟩ := info_parts Tryd.info3
  obtain ⟨T, hT⟩ : ∃ T, T = facs N := ⟨_, rfl⟩
  rw [← hT]
  have HT := Lib.hid hT; clear hT
  go_enter Tryd.func19, Tryd.ntmps19
  go_wp2_with fail
  go_loopg [0, 2, 3, 5] 1048577 (fun g t0 t2 t3 t5 wr => FacRel w.heap.size w T g t0 t2 t3 t5 wr)
  case atStart => exact ⟨N, 2, [], rfl, rfl, hN.out.1, hN.out.2, by omega, .inr ⟨rfl, by omega⟩, by simp, HT.out.symm, ⟨World.ownsRow_nil _ _ _ _, World.ownsRow_nil _ _ _ _⟩, Below.refl _ _⟩
  case round =>
    obtain ⟨gO, rfl⟩ : ∃ g, g = gk := ⟨_, rfl⟩
    obtain ⟨wo, rfl⟩ : ∃ w', w' = wr := ⟨_, rfl⟩
    obtain ⟨n, p, acc, rfl, rfl, hn1, hn2, hp, hpg, hacc, htot, hown, hbel⟩ := hrel
    have Hn := Lib.hid (And.intro hn1 hn2); clear hn1 hn2
    have Hpg := Lib.hid hpg; clear hpg
    have Hacc := Lib.hid hacc; clear hacc
    have Htot := Lib.hid htot; clear htot
    have Hown := Lib.hid hown; clear hown
    have Hbel := Lib.hid hbel; clear hbel
    have Hp := Lib.hid hp; clear hp
    by_cases hn : n = 1
    · have t1 : decide ((1 : Int) < (n : Int)) = false := by simp; omega
      have Hn1 := Lib.hid hn; clear hn
      go_wp2_with fail
      go_ret3
      exact ⟨_, _, rfl, by rw [← Htot.out, Hn1.out, facLoop_one, List.append_nil]; exact Hown.out, Hbel.out⟩
    · have t1 : decide ((1 : Int) < (n : Int)) = true := by have := Hn.out; simp; omega
      have Hn1 := Lib.hid hn; clear hn
      obtain ⟨P2, hP2⟩ : ∃ P2, P2 = p * p := ⟨_, rfl⟩
      have hpb : p ≤ 1048577 ∧ p + gO = 1048579 := by rcases Hpg.out with h | h; exact absurd h Hn1.out; omega
      have hPb : p * p ≤ 1048577 * 1048577 := Nat.mul_le_mul hpb.1 hpb.1
      have ep : IntKind.u64.wrap ((p : Int) * (p : Int)) = (P2 : Int) := by rw [IntKind.wrap_u64, ← Int.natCast_mul, ← hP2]; omega
      have HP2 := Lib.hid hP2; clear hP2
      have Hpb := Lib.hid hpb; clear hpb hPb
      obtain ⟨p', hp'⟩ : ∃ p', p' = if n < P2 then n else p := ⟨_, rfl⟩
      go_upto_if 21 with fail
      go_cut [5] (fun t5 wx => t5 = .int .u64 p' ∧ wx = wo)
      case first =>
        by_cases hb : n < P2
        · rw [if_pos hb] at hp'
          have t2 : decide (n < P2) = true := by simp [hb]
          have Hb := Lib.hid hb; clear hb
          have Hp' := Lib.hid hp'; clear hp'
          go_wp2_with fail
          go_meet
          case rel => exact ⟨by rw [Hp'.out], rfl⟩
        · rw [if_neg hb] at hp'
          have t2 : decide (n < P2) = false := by simp; omega
          have Hb := Lib.hid hb; clear hb
          have Hp' := Lib.hid hp'; clear hp'
          go_wp2_with fail
          go_meet
          case rel => exact ⟨by rw [Hp'.out], rfl⟩
      case rest =>
        obtain ⟨rfl, rfl⟩ := hcut
        have hp2 : 2 ≤ p' := by have := Hn.out; have := Hn1.out; have := Hp.out; rw [hp']; split <;> omega
        have hp0 : (p' : Int) ≠ 0 := by omega
        have ep1 : IntKind.u64.wrap ((p' : Int) + 1) = (p' : Int) + 1 := by
          have : p' ≤ 1099511627776 := by have := Hn.out; have := Hpb.out; rw [hp']; split <;> omega
          rw [IntKind.wrap_u64]; omega
        obtain ⟨⟨N', K'⟩, hR⟩ : ∃ R, R = divOut p' 64 n 0 := ⟨_, rfl⟩
        have hspec := divOut_spec hp2 (f := 64) (k := 0) Hn.out.1 (by have := Hn.out.2; omega)
        rw [← hR] at hspec
        have Hspec := Lib.hid hspec; clear hspec
        have hstep : facLoop gO n p = if 0 < K' then (p', K') :: facLoop (gO - 1) N' (p' + 1) else facLoop (gO - 1) N' (p' + 1) := by
          obtain ⟨g', rfl⟩ : ∃ g', gO = g' + 1 := ⟨gO - 1, by have := Hpb.out; omega⟩
          rw [facLoop_succ (by have := Hn.out; have := Hn1.out; omega), ← HP2.out, ← hp', ← hR]
          rfl
        have Hstep := Lib.hid hstep; clear hstep
        have HR := Lib.hid hR; clear hR
        have Hp' := Lib.hid hp'; clear hp' t1 ep
        go_wp2_with fail
        go_loopg [0, 6] 64 (fun g t0 t6 wr => DivOutRel p' (N', K') wc g t0 t6 wr)
        case atStart => exact ⟨n, 0, rfl, rfl, HR.out.symm, Hn.out.1, by have := Hn.out.2; omega, rfl, Hn.out.2, rfl⟩
        case round =>
          obtain ⟨m, k, rfl, rfl, hd, hm, hmg, hkg, hm2, rfl⟩ := hrel
          have Hd := Lib.hid hd; clear hd
          have Hmg := Lib.hid hmg; clear hmg
          have Hm := Lib.hid hm; clear hm
          have Hm2 := Lib.hid hm2; clear hm2
          by_cases hdiv : m % p' = 0
          · have t3 : ((m : Int) % (p' : Int) == 0) = true := by rw [beq_iff_eq]; omega
            obtain ⟨m', hm'⟩ : ∃ m', m' = m / p' := ⟨_, rfl⟩
            have em : (m : Int) / (p' : Int) = (m' : Int) := by rw [hm', Int.natCast_ediv]
            have hle : m' ≤ m := by rw [hm']; exact Nat.div_le_self _ _
            have em' : IntKind.u64.wrap (m' : Int) = (m' : Int) := by rw [IntKind.wrap_u64]; have := Hm2.out; omega
            have Hle := Lib.hid hle; clear hle
            have Hdiv := Lib.hid hdiv; clear hdiv
            have Hm' := Lib.hid hm'; clear hm'
            have hgk : 1 ≤ gk := by
              rcases Nat.eq_zero_or_pos gk with h0 | h0
              · have h1 := Hmg.out; rw [h0] at h1; have := Hm.out; omega
              · exact h0
            go_wp2_with fail
            go_roundg (gk - 1)
            case rel =>
              obtain ⟨g', rfl⟩ : ∃ g', gk = g' + 1 := ⟨gk - 1, by omega⟩
              exact ⟨m', k + 1, rfl, by go_num, by rw [← Hd.out, divOut_step Hdiv.out, Hm'.out]; rfl, by rw [Hm'.out]; exact div_pos_of_mod Hm.out Hdiv.out, by rw [Hm'.out]; exact div_half hp2 Hmg.out, by omega, by have := Hle.out; have := Hm2.out; omega, rfl⟩
            case measure => omega
          · have t3 : ((m : Int) % (p' : Int) == 0) = false := by rw [beq_eq_false_iff_ne]; omega
            have hR2 := Hd.out
            rw [divOut_stop hdiv] at hR2
            simp only [Prod.mk.injEq] at hR2
            obtain ⟨rfl, rfl⟩ := hR2
            clear hdiv
            by_cases hk : 0 < k
            · have t4 : decide ((0 : Int) < (k : Int)) = true := by simp; omega
              have hlen : acc.length + 1 ≤ 1048577 := by have := Hacc.out; have := Hpb.out; omega
              have Hlen := Lib.hid hlen; clear hlen
              go_wp2_with (at_builtin; refine Hid.out ?_)
              refine Lib.hid ?_
              refine wpList_append_own _ rfl (.tmp 34) (.tmp 36) 33 rfl w.heap.size 22 i22 (.int .u64 0) 1 8 Tryd.underlying33 hi22 hy0 hy1 hy2 rfl (by decide) _ _ _ rfl (Hown.out.q.alloc _) ⟨wr.heap.size, 0, none⟩ 1 1 [.int .u64 p'] rfl rfl (new_one _ _ _) (one_u64 _)
                (by have := Hlen.out; unfold maxLen; omega) (by have := Hlen.out; omega) (by have := Hbel.out.size; simp; omega) fun v2' w2 hown2 hgrow2 _ => ?_
              have hown2e := (Hown.out.e.alloc (.cells #[.int .u64 p'] 22)).kept hgrow2 (rows_apart Hown.out.e Hown.out.q (by decide))
              have hb2 : Below w.heap.size w w2 := (Hbel.out.alloc Hbel.out.size _).grown hgrow2 (by have := Hbel.out.size; simp; omega) (fun k hk => (Hown.out.q.lt k hk).1)
              have Ho2 := Lib.hid hown2; clear hown2
              have Ho2e := Lib.hid hown2e; clear hown2e hgrow2
              have Hb2 := Lib.hid hb2; clear hb2
              go_wp2_with (at_builtin; refine Hid.out ?_)
              refine Lib.hid ?_
              refine wpList_append_own _ rfl (.tmp 38) (.tmp 40) 34 rfl w.heap.size 3 i3 (.int .i64 0) 1 8 Tryd.underlying34 hi3 hz0 hz1 hz2 rfl (by decide) _ _ _ rfl (Ho2e.out.alloc _) ⟨w2.heap.size, 0, none⟩ 1 1 [.int .i64 k] rfl rfl (new_one _ _ _) (one_i64 _)
                (by have := Hlen.out; unfold maxLen; omega) (by have := Hlen.out; omega) (by have := Hb2.out.size; simp; omega) fun v3' w3 hown3 hgrow3 _ => ?_
              have hb3 : Below w.heap.size w w3 := (Hb2.out.alloc Hb2.out.size _).grown hgrow3 (by have := Hb2.out.size; simp; omega) (fun k hk => (Ho2e.out.lt k hk).1)
              have hown3q := (Ho2.out.alloc (.cells #[.int .i64 k] 3)).kept hgrow3 (rows_apart Ho2.out Ho2e.out (by decide))
              have hpair : OwnPair w.heap.size w3 v2' v3' (acc ++ [(p', k)]) := ⟨by simpa using hown3q, by simpa using hown3⟩
              have Hb3 := Lib.hid hb3; clear hb3
              have Hpair := Lib.hid hpair; clear hpair hown3 hgrow3 hown3q
              go_wp2_with fail
              go_roundg (gO - 1)
              case rel =>
                refine ⟨m, p' + 1, acc ++ [(p', k)], rfl, by go_num, Hspec.out.1, Hm2.out, by omega, ?_, by have := Hlen.out; have := Hacc.out; have := Hpb.out; simp; omega, ?_, Hpair.out, Hb3.out⟩
                · exact next_ok Hpb.out Hn.out (by rw [← HP2.out]; exact Hp'.out) Hn1.out hp2 (by exact Hspec.out)
                · rw [List.append_assoc, ← Htot.out, Hstep.out, if_pos hk]; rfl
              case measure => have := Hpb.out; omega
            · have t4 : decide ((0 : Int) < (k : Int)) = false := by simp; omega
              go_wp2_with fail
              go_roundg (gO - 1)
              case rel =>
                refine ⟨m, p' + 1, acc, rfl, by go_num, Hspec.out.1, Hm2.out, by omega, ?_, by have := Hacc.out; have := Hpb.out; omega, ?_, Hown.out, Hbel.out⟩
                · exact next_ok Hpb.out Hn.out (by rw [← HP2.out]; exact Hp'.out) Hn1.out hp2 (by exact Hspec.out)
                · rw [← Htot.out, Hstep.out, if_neg hk]
              case measure => have := Hpb.out; omega
end Go.Proofs.YtpphfeinmmmckaaDoor

/- RFactor: The walk of the reference's Factor: it hands back two slices of its own, the same numbers. -/
namespace Go.Proofs.YtpphfeinmmmckaaDoor
open Go.RowKit

set_option maxRecDepth 100000 in
set_option maxHeartbeats 1000000 in
theorem rfactor_in (N : Nat) (w : World) (e1 : decide ((N : Int) < 1) = false) (e2 : decide ((1099511627776 : Int) < (N : Int)) = false) (hN : Hid (1 ≤ N ∧ N ≤ 1099511627776)) :
    Calls Tryd.prog 20 #[.int .u64 N] w fun e w' => ∃ v2 v3, e = .returned (.tuple #[v2, v3, .int .i64 0]) ∧ OwnPair w.heap.size w' v2 v3 (facs N) ∧ Below w.heap.size w w' := by
  obtain ⟨i22, hi22, hy0, hy1, hy2⟩ := info_parts Tryd.info22
  obtain ⟨i3, hi3, hz0, hz1, hz2⟩ := info_parts Tryd.info3
  obtain ⟨T, hT⟩ : ∃ T, T = facs N := ⟨_, rfl⟩
  rw [← hT]
  have HT := Lib.hid hT; clear hT
  go_enter Tryd.func20, Tryd.ntmps20
  go_wp2_with fail
  go_loopg [0, 5, 6, 7] 1048577 (fun g t0 t5 t6 t7 wr => FacRel w.heap.size w T g t0 t5 t6 t7 wr)
  case atStart => exact ⟨N, 2, [], rfl, rfl, hN.out.1, hN.out.2, by omega, .inr ⟨rfl, by omega⟩, by simp, HT.out.symm, ⟨World.ownsRow_nil _ _ _ _, World.ownsRow_nil _ _ _ _⟩, Below.refl _ _⟩
  case round =>
    obtain ⟨gO, rfl⟩ : ∃ g, g = gk := ⟨_, rfl⟩
    obtain ⟨wo, rfl⟩ : ∃ w', w' = wr := ⟨_, rfl⟩
    obtain ⟨n, p, acc, rfl, rfl, hn1, hn2, hp, hpg, hacc, htot, hown, hbel⟩ := hrel
    have Hn := Lib.hid (And.intro hn1 hn2); clear hn1 hn2
    have Hpg := Lib.hid hpg; clear hpg
    have Hacc := Lib.hid hacc; clear hacc
    have Htot := Lib.hid htot; clear htot
    have Hown := Lib.hid hown; clear hown
    have Hbel := Lib.hid hbel; clear hbel
    have Hp := Lib.hid hp; clear hp
    by_cases hn : n = 1
    · have t1 : decide ((1 : Int) < (n : Int)) = false := by simp; omega
      have Hn1 := Lib.hid hn; clear hn
      go_wp2_with fail
      go_ret3
      exact ⟨_, _, rfl, by rw [← Htot.out, Hn1.out, facLoop_one, List.append_nil]; exact Hown.out, Hbel.out⟩
    · have t1 : decide ((1 : Int) < (n : Int)) = true := by have := Hn.out; simp; omega
      have Hn1 := Lib.hid hn; clear hn
      obtain ⟨P2, hP2⟩ : ∃ P2, P2 = p * p := ⟨_, rfl⟩
      have hpb : p ≤ 1048577 ∧ p + gO = 1048579 := by rcases Hpg.out with h | h; exact absurd h Hn1.out; omega
      have ep : (n : Int) / (p : Int) = ((n / p : Nat) : Int) := (Int.natCast_ediv _ _).symm
      obtain ⟨dq, hdq⟩ : ∃ dq, dq = n / p := ⟨_, rfl⟩
      rw [← hdq] at ep
      have ep' : IntKind.u64.wrap (dq : Int) = (dq : Int) := by
        have h1 : dq ≤ n := hdq ▸ Nat.div_le_self _ _
        rw [IntKind.wrap_u64]; have := Hn.out; omega
      have hiff : n < P2 ↔ dq < p := by rw [hP2, hdq]; exact (Nat.div_lt_iff_lt_mul (by have := Hp.out; omega)).symm
      have hp1 : 1 ≤ p := by have := Hp.out; omega
      have hp0' : (p : Int) ≠ 0 := by omega
      have Hiff := Lib.hid hiff; clear hiff
      have Hdq := Lib.hid hdq; clear hdq
      have HP2 := Lib.hid hP2; clear hP2
      have Hpb := Lib.hid hpb; clear hpb
      obtain ⟨p', hp'⟩ : ∃ p', p' = if n < P2 then n else p := ⟨_, rfl⟩
      go_upto_if 23 with fail
      go_cut [7] (fun t7 wx => t7 = .int .u64 p' ∧ wx = wo)
      case first =>
        by_cases hb : n < P2
        · rw [if_pos hb] at hp'
          have t2 : dq < p := Hiff.out.1 hb
          have Hb := Lib.hid hb; clear hb
          have Hp' := Lib.hid hp'; clear hp'
          go_wp2_with fail
          go_meet
          case rel => exact ⟨by rw [Hp'.out], rfl⟩
        · rw [if_neg hb] at hp'
          have t2 : ¬ dq < p := fun h => hb (Hiff.out.2 h)
          have Hb := Lib.hid hb; clear hb
          have Hp' := Lib.hid hp'; clear hp'
          go_wp2_with fail
          go_meet
          case rel => exact ⟨by rw [Hp'.out], rfl⟩
      case rest =>
        obtain ⟨rfl, rfl⟩ := hcut
        have hp2 : 2 ≤ p' := by have := Hn.out; have := Hn1.out; have := Hp.out; rw [hp']; split <;> omega
        have hp0 : (p' : Int) ≠ 0 := by omega
        have ep1 : IntKind.u64.wrap ((p' : Int) + 1) = (p' : Int) + 1 := by
          have : p' ≤ 1099511627776 := by have := Hn.out; have := Hpb.out; rw [hp']; split <;> omega
          rw [IntKind.wrap_u64]; omega
        obtain ⟨⟨N', K'⟩, hR⟩ : ∃ R, R = divOut p' 64 n 0 := ⟨_, rfl⟩
        have hspec := divOut_spec hp2 (f := 64) (k := 0) Hn.out.1 (by have := Hn.out.2; omega)
        rw [← hR] at hspec
        have Hspec := Lib.hid hspec; clear hspec
        have hstep : facLoop gO n p = if 0 < K' then (p', K') :: facLoop (gO - 1) N' (p' + 1) else facLoop (gO - 1) N' (p' + 1) := by
          obtain ⟨g', rfl⟩ : ∃ g', gO = g' + 1 := ⟨gO - 1, by have := Hpb.out; omega⟩
          rw [facLoop_succ (by have := Hn.out; have := Hn1.out; omega), ← HP2.out, ← hp', ← hR]
          rfl
        have Hstep := Lib.hid hstep; clear hstep
        have HR := Lib.hid hR; clear hR
        have Hp' := Lib.hid hp'; clear hp' t1 ep ep' hp0' hp1
        go_wp2_with fail
        go_loopg [0, 8] 64 (fun g t0 t8 wr => DivOutRel p' (N', K') wc g t0 t8 wr)
        case atStart => exact ⟨n, 0, rfl, rfl, HR.out.symm, Hn.out.1, by have := Hn.out.2; omega, rfl, Hn.out.2, rfl⟩
        case round =>
          obtain ⟨m, k, rfl, rfl, hd, hm, hmg, hkg, hm2, rfl⟩ := hrel
          have Hd := Lib.hid hd; clear hd
          have Hmg := Lib.hid hmg; clear hmg
          have Hm := Lib.hid hm; clear hm
          have Hm2 := Lib.hid hm2; clear hm2
          by_cases hdiv : m % p' = 0
          · have t3 : ((m : Int) % (p' : Int) == 0) = true := by rw [beq_iff_eq]; omega
            obtain ⟨m', hm'⟩ : ∃ m', m' = m / p' := ⟨_, rfl⟩
            have em : (m : Int) / (p' : Int) = (m' : Int) := by rw [hm', Int.natCast_ediv]
            have hle : m' ≤ m := by rw [hm']; exact Nat.div_le_self _ _
            have em' : IntKind.u64.wrap (m' : Int) = (m' : Int) := by rw [IntKind.wrap_u64]; have := Hm2.out; omega
            have Hle := Lib.hid hle; clear hle
            have Hdiv := Lib.hid hdiv; clear hdiv
            have Hm' := Lib.hid hm'; clear hm'
            have hgk : 1 ≤ gk := by
              rcases Nat.eq_zero_or_pos gk with h0 | h0
              · have h1 := Hmg.out; rw [h0] at h1; have := Hm.out; omega
              · exact h0
            go_wp2_with fail
            go_roundg (gk - 1)
            case rel =>
              obtain ⟨g', rfl⟩ : ∃ g', gk = g' + 1 := ⟨gk - 1, by omega⟩
              exact ⟨m', k + 1, rfl, by go_num, by rw [← Hd.out, divOut_step Hdiv.out, Hm'.out]; rfl, by rw [Hm'.out]; exact div_pos_of_mod Hm.out Hdiv.out, by rw [Hm'.out]; exact div_half hp2 Hmg.out, by omega, by have := Hle.out; have := Hm2.out; omega, rfl⟩
            case measure => omega
          · have t3 : ((m : Int) % (p' : Int) == 0) = false := by rw [beq_eq_false_iff_ne]; omega
            have hR2 := Hd.out
            rw [divOut_stop hdiv] at hR2
            simp only [Prod.mk.injEq] at hR2
            obtain ⟨rfl, rfl⟩ := hR2
            clear hdiv
            by_cases hk : 0 < k
            · have t4 : decide ((0 : Int) < (k : Int)) = true := by simp; omega
              have hlen : acc.length + 1 ≤ 1048577 := by have := Hacc.out; have := Hpb.out; omega
              have Hlen := Lib.hid hlen; clear hlen
              go_wp2_with (at_builtin; refine Hid.out ?_)
              refine Lib.hid ?_
              refine wpList_append_own _ rfl (.tmp 36) (.tmp 38) 33 rfl w.heap.size 22 i22 (.int .u64 0) 1 8 Tryd.underlying33 hi22 hy0 hy1 hy2 rfl (by decide) _ _ _ rfl (Hown.out.q.alloc _) ⟨wr.heap.size, 0, none⟩ 1 1 [.int .u64 p'] rfl rfl (new_one _ _ _) (one_u64 _)
                (by have := Hlen.out; unfold maxLen; omega) (by have := Hlen.out; omega) (by have := Hbel.out.size; simp; omega) fun v2' w2 hown2 hgrow2 _ => ?_
              have hown2e := (Hown.out.e.alloc (.cells #[.int .u64 p'] 22)).kept hgrow2 (rows_apart Hown.out.e Hown.out.q (by decide))
              have hb2 : Below w.heap.size w w2 := (Hbel.out.alloc Hbel.out.size _).grown hgrow2 (by have := Hbel.out.size; simp; omega) (fun k hk => (Hown.out.q.lt k hk).1)
              have Ho2 := Lib.hid hown2; clear hown2
              have Ho2e := Lib.hid hown2e; clear hown2e hgrow2
              have Hb2 := Lib.hid hb2; clear hb2
              go_wp2_with (at_builtin; refine Hid.out ?_)
              refine Lib.hid ?_
              refine wpList_append_own _ rfl (.tmp 40) (.tmp 42) 34 rfl w.heap.size 3 i3 (.int .i64 0) 1 8 Tryd.underlying34 hi3 hz0 hz1 hz2 rfl (by decide) _ _ _ rfl (Ho2e.out.alloc _) ⟨w2.heap.size, 0, none⟩ 1 1 [.int .i64 k] rfl rfl (new_one _ _ _) (one_i64 _)
                (by have := Hlen.out; unfold maxLen; omega) (by have := Hlen.out; omega) (by have := Hb2.out.size; simp; omega) fun v3' w3 hown3 hgrow3 _ => ?_
              have hb3 : Below w.heap.size w w3 := (Hb2.out.alloc Hb2.out.size _).grown hgrow3 (by have := Hb2.out.size; simp; omega) (fun k hk => (Ho2e.out.lt k hk).1)
              have hown3q := (Ho2.out.alloc (.cells #[.int .i64 k] 3)).kept hgrow3 (rows_apart Ho2.out Ho2e.out (by decide))
              have hpair : OwnPair w.heap.size w3 v2' v3' (acc ++ [(p', k)]) := ⟨by simpa using hown3q, by simpa using hown3⟩
              have Hb3 := Lib.hid hb3; clear hb3
              have Hpair := Lib.hid hpair; clear hpair hown3 hgrow3 hown3q
              go_wp2_with fail
              go_roundg (gO - 1)
              case rel =>
                refine ⟨m, p' + 1, acc ++ [(p', k)], rfl, by go_num, Hspec.out.1, Hm2.out, by omega, ?_, by have := Hlen.out; have := Hacc.out; have := Hpb.out; simp; omega, ?_, Hpair.out, Hb3.out⟩
                · exact next_ok Hpb.out Hn.out (by rw [← HP2.out]; exact Hp'.out) Hn1.out hp2 (by exact Hspec.out)
                · rw [List.append_assoc, ← Htot.out, Hstep.out, if_pos hk]; rfl
              case measure => have := Hpb.out; omega
            · have t4 : decide ((0 : Int) < (k : Int)) = false := by simp; omega
              go_wp2_with fail
              go_roundg (gO - 1)
              case rel =>
                refine ⟨m, p' + 1, acc, rfl, by go_num, Hspec.out.1, Hm2.out, by omega, ?_, by have := Hacc.out; have := Hpb.out; omega, ?_, Hown.out, Hbel.out⟩
                · exact next_ok Hpb.out Hn.out (by rw [← HP2.out]; exact Hp'.out) Hn1.out hp2 (by exact Hspec.out)
                · rw [← Htot.out, Hstep.out, if_neg hk]
              case measure => have := Hpb.out; omega

set_option maxHeartbeats 400000 in
theorem factor_lo (w : World) : Calls Tryd.prog 19 #[.int .u64 0] w fun e w' => e = .returned (.tuple #[.slice none 0 0, .slice none 0 0, .int .i64 2]) ∧ w = w' := by
  go_enter Tryd.func19, Tryd.ntmps19
  go_wp2_with fail
  go_ret3
  exact ⟨rfl, rfl⟩
set_option maxHeartbeats 400000 in
theorem factor_hi (N : Nat) (w : World) (e1 : decide ((N : Int) < 1) = false) (e2 : decide ((1099511627776 : Int) < (N : Int)) = true) : Calls Tryd.prog 19 #[.int .u64 N] w fun e w' => e = .returned (.tuple #[.slice none 0 0, .slice none 0 0, .int .i64 2]) ∧ w = w' := by
  go_enter Tryd.func19, Tryd.ntmps19
  go_wp2_with fail
  go_ret3
  exact ⟨rfl, rfl⟩
set_option maxHeartbeats 400000 in
theorem rfactor_lo (w : World) : Calls Tryd.prog 20 #[.int .u64 0] w fun e w' => e = .returned (.tuple #[.slice none 0 0, .slice none 0 0, .int .i64 2]) ∧ w = w' := by
  go_enter Tryd.func20, Tryd.ntmps20
  go_wp2_with fail
  go_ret3
  exact ⟨rfl, rfl⟩
set_option maxHeartbeats 400000 in
theorem rfactor_hi (N : Nat) (w : World) (e1 : decide ((N : Int) < 1) = false) (e2 : decide ((1099511627776 : Int) < (N : Int)) = true) : Calls Tryd.prog 20 #[.int .u64 N] w fun e w' => e = .returned (.tuple #[.slice none 0 0, .slice none 0 0, .int .i64 2]) ∧ w = w' := by
  go_enter Tryd.func20, Tryd.ntmps20
  go_wp2_with fail
  go_ret3
  exact ⟨rfl, rfl⟩
end Go.Proofs.YtpphfeinmmmckaaDoor

/- Next: The walks of prime.Next, of the reference's Is and Next, of Next31, and of alive: alive answers true. -/
namespace Go.Proofs.YtpphfeinmmmckaaDoor
open Go.RowKit

theorem tab_below {w w' : World} (h : TabAt w) (hb : Below w.heap.size w w') : TabAt w' := fun j hj => by
  have := h j hj
  exact (hb.cell (p := ⟨0, j, none⟩) (World.block_lt_of_cell? _ _ this)).trans this

set_option maxRecDepth 100000 in
set_option maxHeartbeats 400000 in
theorem next_far (N : Nat) (w : World) (e1 : decide ((4611686018427387904 : Int) < (N : Int)) = true) :
    Calls Tryd.prog 17 #[.int .u64 N] w fun e w' => e = .returned (.tuple #[.int .u64 0, .int .i64 2]) ∧ w = w' := by
  go_enter Tryd.func17, Tryd.ntmps17
  go_wp2_with fail
  go_ret2
  exact ⟨rfl, rfl⟩

def NextRel (N P : Nat) (w : World) (g : Nat) (t0 : Value) (wr : World) : Prop :=
  ∃ n : Nat, t0 = .int .u64 n ∧ N < n ∧ n + g = P ∧ Below w.heap.size w wr

set_option maxRecDepth 100000 in
set_option maxHeartbeats 400000 in
theorem next_in (N P : Nat) (w : World) (hT : Hid (TabAt w)) (e1 : decide ((4611686018427387904 : Int) < (N : Int)) = false) (eN : IntKind.u64.wrap ((N : Int) + 1) = (N : Int) + 1)
    (hNP : N < P) (hP : Hid (P < 18446744073709551616)) (hyes : Hid (mrIs P = true)) (hno : Hid (∀ k, N < k → k < P → mrIs k = false)) :
    Calls Tryd.prog 17 #[.int .u64 N] w fun e w' => e = .returned (.tuple #[.int .u64 (P : Int), .int .i64 0]) ∧ Below w.heap.size w w' := by
  go_enter Tryd.func17, Tryd.ntmps17
  go_wp2_with fail
  clear eN
  go_loopg [0] (P - (N + 1)) (fun g t0 wr => NextRel N P w g t0 wr)
  case atStart => exact ⟨N + 1, by go_num, by omega, by omega, Below.refl _ _⟩
  case round =>
    obtain ⟨n, rfl, hn, hg, hb⟩ := hrel
    have c14 := is_any n wr (tab_below hT.out hb)
    have Hb := Lib.hid hb; clear hb
    by_cases hp : n = P
    · rw [hp, hyes.out, ← hp] at c14
      have C14 := Lib.hid c14; clear c14
      have Hp := Lib.hid hp; clear hp
      go_wp2_with fail
      refine C14.out.mono ?_
      rintro e w1 ⟨rfl, hb1⟩
      have Hb1 := Lib.hid hb1; clear hb1
      go_wp2_with fail
      go_ret2
      refine ⟨?_, Hb.out.trans (Hb1.out.mono Hb.out.size)⟩
      show Ending.returned (.tuple #[.int .u64 (n : Int), .int .i64 0]) = _
      rw [Hp.out]
    · rw [hno.out n hn (by omega)] at c14
      have C14 := Lib.hid c14; clear c14
      have eN : IntKind.u64.wrap ((n : Int) + 1) = (n : Int) + 1 := by rw [IntKind.wrap_u64]; have := hP.out; omega
      go_wp2_with fail
      refine C14.out.mono ?_
      rintro e w1 ⟨rfl, hb1⟩
      have Hb1 := Lib.hid hb1; clear hb1
      go_wp2_with fail
      go_roundg (gk - 1)
      case rel => exact ⟨n + 1, by go_num, by omega, by omega, Hb.out.trans (Hb1.out.mono Hb.out.size)⟩
      case measure => omega

theorem next7 (w : World) (hT : TabAt w) : Calls Tryd.prog 17 #[.int .u64 7] w fun e w' => e = .returned (.tuple #[.int .u64 11, .int .i64 0]) ∧ Below w.heap.size w w' :=
  next_in 7 11 w (Lib.hid hT) (by decide) (by decide) (by decide) (Lib.hid (by decide)) (Lib.hid (by decide +kernel)) (Lib.hid (by
    intro k h1 h2
    obtain rfl | rfl | rfl : k = 8 ∨ k = 9 ∨ k = 10 := by omega
    all_goals decide +kernel))

theorem facs12 : facs 12 = [(2, 2), (3, 1)] := by decide +kernel

theorem pair_two {B : Nat} {w : World} {v2 v3 : Value} {a b c d : Nat} (h : OwnPair B w v2 v3 [(a, b), (c, d)]) :
    ∃ g2 c2 g3 c3, v2 = .slice (some ⟨g2, 0, none⟩) 2 c2 ∧ v3 = .slice (some ⟨g3, 0, none⟩) 2 c3 ∧ w.cell? ⟨g2, 0, none⟩ = some (.int .u64 a) ∧ w.cell? ⟨g2, 1, none⟩ = some (.int .u64 c) ∧ w.cell? ⟨g3, 0, none⟩ = some (.int .i64 b) ∧ w.cell? ⟨g3, 1, none⟩ = some (.int .i64 d) := by
  have hq := h.q; have he := h.e
  have cq := fun g hg => hq.cells (g := g) hg
  have ce := fun g hg => he.cells (g := g) hg
  rcases hq.2 with ⟨_, h0⟩ | ⟨g2, c2, _, rfl, _⟩
  · simp at h0
  · rcases he.2 with ⟨_, h0⟩ | ⟨g3, c3, _, rfl, _⟩
    · simp at h0
    · have q0 := cq g2 rfl 0 _ rfl; have q1 := cq g2 rfl 1 _ rfl
      have e0 := ce g3 rfl 0 _ rfl; have e1 := ce g3 rfl 1 _ rfl
      simp [Addr.add] at q0 q1 e0 e1
      exact ⟨g2, c2, g3, c3, rfl, rfl, q0, q1, e0, e1⟩

set_option maxRecDepth 100000 in
set_option maxHeartbeats 800000 in
theorem alive_any (w : World) (hT : Hid (TabAt w)) : Calls Tryd.prog 13 #[] w fun e w' => e = .returned (.bool true) ∧ Below w.heap.size w w' := by
  have c19 := Lib.hid (factor_in 12 w (by decide) (by decide) (Lib.hid (by decide)))
  go_enter Tryd.func13, Tryd.ntmps13
  go_wp2_with fail
  refine c19.out.mono ?_
  rintro e w1 ⟨v2, v3, rfl, hp, hb⟩
  rw [facs12] at hp
  obtain ⟨g2, c2, g3, c3, rfl, rfl, q0, q1, e0, e1⟩ := pair_two hp
  clear hp
  have c17 := Lib.hid (next7 w1 (tab_below hT.out hb))
  have Hb := Lib.hid hb; clear hb
  have Hq := Lib.hid (And.intro q0 (And.intro q1 (And.intro e0 e1))); clear q0 q1 e0 e1
  go_wp2_with fail
  refine c17.out.mono ?_
  rintro e w2 ⟨rfl, hb2⟩
  obtain ⟨q0, q1, e0, e1⟩ := Hq.out
  have q0 := (hb2.cell (World.block_lt_of_cell? _ _ q0)).trans q0
  have q1 := (hb2.cell (World.block_lt_of_cell? _ _ q1)).trans q1
  have e0 := (hb2.cell (World.block_lt_of_cell? _ _ e0)).trans e0
  have e1 := (hb2.cell (World.block_lt_of_cell? _ _ e1)).trans e1
  have Hb2 := Lib.hid hb2; clear hb2
  go_wp2_with fail
  go_ret
  exact ⟨rfl, Hb.out.trans (Hb2.out.mono Hb.out.size)⟩
end Go.Proofs.YtpphfeinmmmckaaDoor

/- RIs: The walk of the reference's Is: by trial. -/
namespace Go.Proofs.YtpphfeinmmmckaaDoor
open Go.RowKit

set_option maxRecDepth 100000 in
set_option maxHeartbeats 400000 in
theorem ris_small (n : Nat) (w : World) (e1 : decide ((n : Int) < 2) = true) :
    Calls Tryd.prog 15 #[.int .u64 n] w fun e w' => e = .returned (.bool false) ∧ w = w' := by
  go_enter Tryd.func15, Tryd.ntmps15
  go_wp2_with fail
  go_ret
  exact ⟨rfl, rfl⟩

set_option maxRecDepth 100000 in
set_option maxHeartbeats 400000 in
theorem ris_prime (n : Nat) (w : World) (hp : Hid (Nt.Prime n)) (hb : Hid (n < 9223372036854775808)) (e1 : decide ((n : Int) < 2) = false) (e2 : decide ((9223372036854775808 : Int) ≤ (n : Int)) = false) :
    Calls Tryd.prog 15 #[.int .u64 n] w fun e w' => e = .returned (.bool true) ∧ w = w' := by
  go_enter Tryd.func15, Tryd.ntmps15
  go_wp2_with fail
  go_loop [3] (fun t3 => ∃ d : Nat, t3 = .int .u64 d ∧ 2 ≤ d ∧ d ≤ n) (fun t3 => n - (intOf t3).toNat)
  case atStart => exact ⟨2, rfl, by omega, hp.out.1⟩
  case round =>
    obtain ⟨d, rfl, hd, hdn⟩ := hrel
    obtain ⟨dq, hdq⟩ : ∃ dq, dq = n / d := ⟨_, rfl⟩
    have ed : (n : Int) / (d : Int) = (dq : Int) := by rw [hdq, Int.natCast_ediv]
    have ed' : IntKind.u64.wrap (dq : Int) = (dq : Int) := by
      have : dq ≤ n := hdq ▸ Nat.div_le_self _ _
      rw [IntKind.wrap_u64]; have := hb.out; omega
    have en : IntKind.u64.wrap ((d : Int) + 1) = (d : Int) + 1 := by rw [IntKind.wrap_u64]; have := hb.out; omega
    have hd0 : (d : Int) ≠ 0 := by omega
    have hdqn : 2 * dq ≤ n := by
      have h1 : n / d * d ≤ n := Nat.div_mul_le_self n d
      have h2 : dq * 2 ≤ dq * d := Nat.mul_le_mul_left _ hd
      rw [← hdq] at h1
      omega
    have Hdn := Lib.hid hdn; clear hdn
    have Hdqn := Lib.hid hdqn; clear hdqn
    by_cases hle : d ≤ dq
    · have hsq : d * d ≤ n := by
        have h1 : n / d * d ≤ n := Nat.div_mul_le_self n d
        have h2 : d * d ≤ dq * d := Nat.mul_le_mul_right _ hle
        rw [hdq] at h2
        omega
      have hm := ((Nt.prime_iff n).1 hp.out).2 d hd hsq
      have ht : ((n : Int) % (d : Int) == 0) = false := by rw [beq_eq_false_iff_ne]; omega
      have Hdq := Lib.hid hdq; clear hdq hsq hm
      go_wp2_with fail
      go_round
      case rel => exact ⟨d + 1, by go_num, by omega, by have := Hdqn.out; omega⟩
      case measure => have := Hdqn.out; simp [intOf]; omega
    · have Hdq := Lib.hid hdq; clear hdq
      go_wp2_with fail
      go_ret
      exact ⟨rfl, rfl⟩

set_option maxRecDepth 100000 in
set_option maxHeartbeats 400000 in
theorem ris_comp (n p : Nat) (w : World) (hp : 2 ≤ p) (hpn : Hid (p * p ≤ n)) (hdiv : Hid (n % p = 0)) (hmin : Hid (∀ d, 2 ≤ d → d < p → n % d ≠ 0)) (hb : Hid (n < 9223372036854775808)) (e1 : decide ((n : Int) < 2) = false) (e2 : decide ((9223372036854775808 : Int) ≤ (n : Int)) = false) :
    Calls Tryd.prog 15 #[.int .u64 n] w fun e w' => e = .returned (.bool false) ∧ w = w' := by
  go_enter Tryd.func15, Tryd.ntmps15
  go_wp2_with fail
  go_loop [3] (fun t3 => ∃ d : Nat, t3 = .int .u64 d ∧ 2 ≤ d ∧ d ≤ p) (fun t3 => p - (intOf t3).toNat)
  case atStart => exact ⟨2, rfl, by omega, hp⟩
  case round =>
    obtain ⟨d, rfl, hd, hdp⟩ := hrel
    have hsq : d * d ≤ n := Nat.le_trans (Nat.mul_le_mul hdp hdp) hpn.out
    have hdn : d ≤ n := Nat.le_trans (Nat.le_mul_of_pos_left d (by omega)) hsq
    obtain ⟨dq, hdq⟩ : ∃ dq, dq = n / d := ⟨_, rfl⟩
    have hle : d ≤ dq := by rw [hdq]; exact (Nat.le_div_iff_mul_le (by omega)).2 hsq
    have ed : (n : Int) / (d : Int) = (dq : Int) := by rw [hdq, Int.natCast_ediv]
    have ed' : IntKind.u64.wrap (dq : Int) = (dq : Int) := by
      have : dq ≤ n := hdq ▸ Nat.div_le_self _ _
      rw [IntKind.wrap_u64]; have := hb.out; omega
    have en : IntKind.u64.wrap ((d : Int) + 1) = (d : Int) + 1 := by rw [IntKind.wrap_u64]; have := hb.out; omega
    have hd0 : (d : Int) ≠ 0 := by omega
    have Hdq := Lib.hid hdq; clear hdq
    have Hsq := Lib.hid (And.intro hsq hdn); clear hsq hdn
    by_cases hlt : d < p
    · have hm := hmin.out d hd hlt
      have ht : ((n : Int) % (d : Int) == 0) = false := by rw [beq_eq_false_iff_ne]; omega
      clear hm
      go_wp2_with fail
      go_round
      case rel => exact ⟨d + 1, by go_num, by omega, by omega⟩
      case measure => simp [intOf]; omega
    · obtain rfl : d = p := by omega
      have hm := hdiv.out
      have ht : ((n : Int) % (d : Int) == 0) = true := by rw [beq_iff_eq]; omega
      clear hm
      go_wp2_with fail
      go_ret
      exact ⟨rfl, rfl⟩

/-- The reference's Is says yes just to the primes. -/
theorem ris_any (n : Nat) (b : Bool) (w : World) (hb : n < 9223372036854775808) (h : b = true ↔ Nt.Prime n) :
    Calls Tryd.prog 15 #[.int .u64 n] w fun e w' => e = .returned (.bool b) ∧ w = w' := by
  by_cases h2 : n < 2
  · have : b = false := by
      rcases b with _ | _
      · rfl
      · have := (h.1 rfl).1; omega
    rw [this]
    exact ris_small n w (decide_eq_true (by omega))
  · have e1 : decide ((n : Int) < 2) = false := decide_eq_false (by omega)
    have e2 : decide ((9223372036854775808 : Int) ≤ (n : Int)) = false := decide_eq_false (by omega)
    by_cases hp : Nt.Prime n
    · rw [h.2 hp]
      exact ris_prime n w (Lib.hid hp) (Lib.hid hb) e1 e2
    · have : b = false := by
        rcases b with _ | _
        · rfl
        · exact absurd (h.1 rfl) hp
      rw [this]
      obtain ⟨p, hpp, ⟨c, hc⟩, hmin⟩ := Nt.least_factor n (by omega)
      have hp2 := hpp.1
      have hc2 : 2 ≤ c := by
        rcases c with _ | _ | c
        · simp at hc; omega
        · exact absurd (by rw [hc, Nat.mul_one]; exact hpp) hp
        · omega
      have h3 := hmin c hc2 ⟨p, by rw [hc, Nat.mul_comm]⟩
      refine ris_comp n p w hp2 (Lib.hid (by rw [hc]; exact Nat.mul_le_mul_left _ h3)) (Lib.hid (Nat.mod_eq_zero_of_dvd ⟨c, hc⟩)) (Lib.hid fun d h4 h5 h6 => ?_) (Lib.hid hb) e1 e2
      have := hmin d h4 (Nat.dvd_of_mod_eq_zero h6)
      omega
end Go.Proofs.YtpphfeinmmmckaaDoor

