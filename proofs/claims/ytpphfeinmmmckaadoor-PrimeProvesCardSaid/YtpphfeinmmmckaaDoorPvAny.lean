/-
  prime.Prove: the paper of a prime up to 2^40 holds; else none.
-/
import Derived.Test.YtpphfeinmmmckaaDoorPShow
import Derived.Test.YtpphfeinmmmckaaDoorBase
import Derived.Laws.EntriesVeiled
namespace Go.Proofs.YtpphfeinmmmckaaDoor
open Go.RowKit

set_option maxRecDepth 100000 in
set_option maxHeartbeats 800000 in
theorem prove_far (n : Nat) (w : World) (h : 1099511627776 < n) :
    Calls Tryd.prog 26 #[.int .u64 n] w fun e w' => e = .returned (.tuple #[.slice none 0 0, .int .i64 2]) ∧ Below w.heap.size w w' := by
  have t1 : decide ((1099511627776 : Int) < (n : Int)) = true := decide_eq_true (by omega)
  clear h
  go_enter Tryd.func26, Tryd.ntmps26
  go_wp2_with fail
  go_ret2
  exact ⟨rfl, Below.refl _ _⟩

set_option maxRecDepth 100000 in
set_option maxHeartbeats 800000 in
theorem prove_not (n : Nat) (w : World) (h : n ≤ 1099511627776) (c14 : Hid (Calls Tryd.prog 14 #[.int .u64 n] w fun e w' => e = .returned (.bool false) ∧ Below w.heap.size w w')) :
    Calls Tryd.prog 26 #[.int .u64 n] w fun e w' => e = .returned (.tuple #[.slice none 0 0, .int .i64 6]) ∧ Below w.heap.size w w' := by
  have t1 : decide ((1099511627776 : Int) < (n : Int)) = false := decide_eq_false (by omega)
  clear h
  go_enter Tryd.func26, Tryd.ntmps26
  go_wp2_with fail
  refine c14.out.mono ?_
  rintro e w1 ⟨rfl, hb⟩
  go_wp2_with fail
  go_ret2
  exact ⟨rfl, hb⟩

def PvPost (n : Nat) (w : World) (e : Ending) (w' : World) : Prop :=
  ∃ (a : Option Addr) (c : Nat) (l : List StepV), e = .returned (.tuple #[.slice a l.length c, .int .i64 0]) ∧ l.length ≤ c ∧ PaperAt w' a l ∧ holdsF n l = true ∧ Below w.heap.size w w'

theorem paper_holds {n : Nat} {l : List StepV} (hG : GoodL l) (h0 : n = 2 → l = []) (h : n ≠ 2 → ∃ m s, l = m ++ [s] ∧ s.N = n) : holdsF n l = true := by
  rw [holdsF]
  by_cases hn : n = 2
  · have hl := h0 hn
    subst hl
    rw [hn]; rfl
  · obtain ⟨m, s, rfl, hs⟩ := h hn
    rw [if_neg (by simp), Bool.and_eq_true, List.all_eq_true]
    refine ⟨fun k hk => hG k (List.mem_range.1 hk), ?_⟩
    have e : (m ++ [s]).getD ((m ++ [s]).length - 1) default = s := by simp [List.getD]
    rw [e, hs, beq_self_eq_true]

def startW (w1 : World) : World :=
  ((w1.alloc (.cells #[.slice none 0 0] 41)).alloc (.cells #[.func (.func 35) #[] #[.pointer (some ⟨w1.heap.size, 0, none⟩)]] 24)).alloc
    (.cells #[.func (.func 36) #[] #[.pointer (some ⟨w1.heap.size + 1, 0, none⟩), .pointer (some ⟨w1.heap.size + 1 + 1, 0, none⟩), .pointer (some ⟨w1.heap.size, 0, none⟩)]] 52)

theorem start_below (w1 : World) : Below w1.heap.size w1 (startW w1) :=
  (((Below.refl _ _).alloc (Nat.le_refl _) _).alloc (by simp) _).alloc (by simp; omega) _

theorem start_inv (w1 : World) : ShowInv w1.heap.size (startW w1) (.slice none 0 0) [] := by
  refine ⟨?_, ?_, ?_, ?_, World.ownsRow_nil _ _ _ _, fun s hs => by simp at hs⟩
  · simp [startW, go_sem]
  · simp [startW, go_sem]
  · simp [startW, go_sem]
  · simp [startW, go_sem]

set_option maxRecDepth 100000 in
set_option maxHeartbeats 800000 in
theorem prove_yes (n : Nat) (w : World) (h : n ≤ 1099511627776) (hp : Hid (Nt.Prime n)) (c14 : Hid (Calls Tryd.prog 14 #[.int .u64 n] w fun e w' => e = .returned (.bool true) ∧ Below w.heap.size w w')) :
    Calls Tryd.prog 26 #[.int .u64 n] w (PvPost n w) := by
  have t1 : decide ((1099511627776 : Int) < (n : Int)) = false := decide_eq_false (by omega)
  have h40 : Hid (n ≤ 1099511627776) := Lib.hid h
  clear h
  go_enter Tryd.func26, Tryd.ntmps26
  go_wp2_with fail
  refine c14.out.mono ?_
  rintro e w1 ⟨rfl, hb⟩
  have Hb := Lib.hid hb; clear hb
  have c36 := Lib.hid (show_any w1.heap.size n n (startW w1) (.slice none 0 0) [] (Nat.le_refl _) hp h40 (Lib.hid (start_inv w1)) (Lib.hid fun k hk => absurd hk (Nat.not_lt_zero _)) (Lib.hid (by have := h40.out; show 0 + n ≤ _; omega)))
  go_wp2_with fail
  refine c36.out.mono ?_
  rintro e w5 ⟨v', new, rfl, hInv, hcnt, hGood, hsh, hlast, hnil, hmov⟩
  obtain ⟨a, c, rfl, hc, hpp⟩ := hInv.paper
  have o5 := hInv.out
  have hbel : Hid (Below w.heap.size w w5) := Lib.hid (Hb.out.trans (((start_below w1).trans (hmov.below (start_inv w1))).mono Hb.out.size))
  have HX := Lib.hid (And.intro hInv (And.intro hcnt (And.intro hGood (And.intro hlast (And.intro hc (And.intro hpp hnil)))))); clear hInv hcnt hGood hsh hlast hmov hc hpp hnil
  go_wp2_with fail
  go_ret2
  refine ⟨a, c, _, rfl, HX.out.2.2.2.2.1, HX.out.2.2.2.2.2.1, ?_, hbel.out⟩
  refine paper_holds HX.out.2.2.1 (fun h2 => ?_) (fun h2 => ?_)
  · rw [HX.out.2.2.2.2.2.2 (by rw [h2]; rfl)]
  · exact HX.out.2.2.2.1 (by simp [shownF, h2])
end Go.Proofs.YtpphfeinmmmckaaDoor
