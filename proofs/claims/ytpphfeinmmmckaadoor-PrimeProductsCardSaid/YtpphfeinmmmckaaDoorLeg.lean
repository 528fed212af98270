/-
  Plain: characters by residues: tables of them, and the masks that the sieve lays.
-/
import Derived.Test.YtpphfeinmmmckaaDoorSieve
import Derived.Test.YtpphfeinmmmckaaDoorBig
namespace Go.Proofs.YtpphfeinmmmckaaDoor
open Nt

/-- The character of x modulo the odd prime l, by Gauss's sum. -/
def leg (l x : Nat) : Bool := gchi l (Nat.add (Nat.mod x l) (Nat.mul l (Nat.mod (Nat.mul (Nat.succ (Nat.mul 3 (Nat.mod x l))) l) 4)))

/-- The odd bases. -/
def oddB : List Nat := [3, 5, 7, 11, 13, 17, 19, 23, 29, 31, 37]

/-- The law of reciprocity, for one l: what the character of l modulo u is. -/
def recip (l : Nat) : Bool :=
  allFrom (fun u => Nat.beq (Nat.mod u 2) 0 || (Nat.beq (Nat.mod u l) 0 || (gchi l u == (leg l (Nat.mod u l) != (Nat.beq (Nat.mod u 4) 3 && Nat.beq (Nat.mod l 4) 3))))) 0 (Nat.mul 4 l)

theorem recip_all : oddB.all recip = true := by decide +kernel

theorem gchi_leg {l u : Nat} (hl : l ∈ oddB) (ho : u % 2 = 1) (hd : u % l ≠ 0) : gchi l u = (leg l (u % l) != (Nat.beq (u % 4) 3 && Nat.beq (l % 4) 3)) := by
  have h := List.all_eq_true.1 recip_all l hl
  have hl0 : 0 < l := (by decide : ∀ l ∈ oddB, 0 < l) l hl
  unfold recip at h
  have h1 := allFrom_spec h (u % (4 * l)) (Nat.mod_lt _ (by show 0 < 4 * l; omega))
  rw [Nat.zero_add] at h1
  have e1 : Nat.mod (u % (4 * l)) 2 = u % 2 := Nat.mod_mod_of_dvd u ⟨2 * l, by rw [← Nat.mul_assoc]⟩
  have e2 : Nat.mod (u % (4 * l)) l = u % l := Nat.mod_mod_of_dvd u ⟨4, Nat.mul_comm _ _⟩
  have e3 : Nat.mod (u % (4 * l)) 4 = u % 4 := Nat.mod_mod_of_dvd u ⟨l, rfl⟩
  rw [e1, e2, e3, ho, ← gchi_mod l u hl0] at h1
  have b1 : Nat.beq 1 0 = false := rfl
  have b2 : Nat.beq (u % l) 0 = false := by
    rcases h3 : Nat.beq (u % l) 0 with _ | _
    · rfl
    · exact absurd (Nat.eq_of_beq_eq_true h3) hd
  rw [b1, b2, Bool.false_or, Bool.false_or] at h1
  exact eq_of_beq h1

/-- Two numbers alike modulo 4, with the same character of l. -/
theorem leg_same {l u v : Nat} (hl : l ∈ oddB) (hu : u % 2 = 1) (h4 : u % 4 = v % 4) (hdu : u % l ≠ 0) (hdv : v % l ≠ 0) (h : gchi l u = gchi l v) : leg l (u % l) = leg l (v % l) := by
  rw [gchi_leg hl hu hdu, gchi_leg hl (by omega) hdv, h4] at h
  revert h
  cases leg l (u % l) <;> cases leg l (v % l) <;> cases (Nat.beq (v % 4) 3 && Nat.beq (l % 4) 3) <;> simp

theorem leg_one {l u : Nat} (hl : l ∈ oddB) (h4 : u % 4 = 1) (hdu : u % l ≠ 0) (h : gchi l u = true) : leg l (u % l) = true := by
  rw [gchi_leg hl (by omega) hdu, h4] at h
  have : Nat.beq 1 3 = false := rfl
  rw [this, Bool.false_and] at h
  revert h
  cases leg l (u % l) <;> simp

/-- The character of 2. -/
def two8 : Bool := allFrom (fun u => Nat.beq (Nat.mod u 2) 0 || (gchi 2 u == (Nat.beq u 1 || Nat.beq u 7))) 0 8
theorem two8_all : two8 = true := by decide +kernel
theorem gchi_two {u : Nat} (ho : u % 2 = 1) : gchi 2 u = (Nat.beq (u % 8) 1 || Nat.beq (u % 8) 7) := by
  have h := two8_all
  unfold two8 at h
  have h1 := allFrom_spec h (u % 8) (Nat.mod_lt _ (by omega))
  rw [Nat.zero_add] at h1
  have e1 : Nat.mod (u % 8) 2 = u % 2 := Nat.mod_mod_of_dvd u ⟨4, rfl⟩
  rw [e1, ho] at h1
  have b1 : Nat.beq 1 0 = false := rfl
  rw [b1, Bool.false_or] at h1
  rw [gchi_mod 2 u (by omega)]
  exact eq_of_beq h1

/-- Two numbers alike modulo 4, with the same character of 2, are alike modulo 8. -/
theorem two_same {u v : Nat} (hu : u % 2 = 1) (h4 : u % 4 = v % 4) (h : gchi 2 u = gchi 2 v) : u % 8 = v % 8 := by
  rw [gchi_two hu, gchi_two (by omega)] at h
  have hx : u % 8 = 1 ∨ u % 8 = 3 ∨ u % 8 = 5 ∨ u % 8 = 7 := by omega
  have hy : v % 8 = 1 ∨ v % 8 = 3 ∨ v % 8 = 5 ∨ v % 8 = 7 := by omega
  rcases hx with h1 | h1 | h1 | h1 <;> rcases hy with h2 | h2 | h2 | h2 <;> rw [h1, h2] at h <;> first | omega | (exfalso; revert h; decide)

/-- A colour: the character of a small prime; a greater prime is asked just whether it divides. -/
def col (l x : Nat) : Bool := bif Nat.ble l 37 then leg l x else true

/-- A table: its bit l s + j, for each s and j: X: 1 + s j has the colour true; Y: false. -/
def chkTab (l X Y : Nat) : Bool := Nat.ble 1 l && allFrom (fun s => allFrom (fun j => Nat.beq (Nat.mod (Nat.succ (Nat.mul s j)) l) 0 || (bif col l (Nat.mod (Nat.succ (Nat.mul s j)) l) then X else Y).testBit (Nat.add (Nat.mul l s) j)) 0 l) 0 l

/-- Where 1 + s j and 1 + i j have one colour. -/
def mask (l X Y s i : Nat) : Nat :=
  Nat.mod (Nat.lor (Nat.land (Nat.shiftRight X (Nat.mul l (Nat.mod s l))) (Nat.shiftRight X (Nat.mul l (Nat.mod i l)))) (Nat.land (Nat.shiftRight Y (Nat.mul l (Nat.mod s l))) (Nat.shiftRight Y (Nat.mul l (Nat.mod i l))))) (Nat.pow 2 l)

theorem tab_bit {l X Y s j : Nat} (h : chkTab l X Y = true) (hd : (1 + s * j) % l ≠ 0) : (bif col l ((1 + s * j) % l) then X else Y).testBit (l * (s % l) + j % l) = true := by
  unfold chkTab at h
  rw [Bool.and_eq_true] at h
  have hl0 : 1 ≤ l := Nat.le_of_ble_eq_true h.1
  have h1 := allFrom_spec (allFrom_spec h.2 (s % l) (Nat.mod_lt _ hl0)) (j % l) (Nat.mod_lt _ hl0)
  rw [Nat.zero_add, Nat.zero_add] at h1
  have e : Nat.mod (Nat.succ (Nat.mul (s % l) (j % l))) l = (1 + s * j) % l := by
    show (s % l * (j % l) + 1) % l = (1 + s * j) % l
    rw [Nat.add_mod, ← Nat.mul_mod, ← Nat.add_mod, Nat.add_comm]
  rw [e] at h1
  have b2 : Nat.beq ((1 + s * j) % l) 0 = false := by
    rcases h3 : Nat.beq ((1 + s * j) % l) 0 with _ | _
    · rfl
    · exact absurd (Nat.eq_of_beq_eq_true h3) hd
  rw [b2, Bool.false_or] at h1
  exact h1

theorem mask_bit {l X Y s i j : Nat} (h : chkTab l X Y = true) (hs : (1 + s * j) % l ≠ 0) (hi : (1 + i * j) % l ≠ 0) (hc : col l ((1 + s * j) % l) = col l ((1 + i * j) % l)) :
    mask l X Y s i < 2 ^ l ∧ (mask l X Y s i).testBit (j % l) = true := by
  refine ⟨Nat.mod_lt _ (Nat.two_pow_pos l), ?_⟩
  have h1 := tab_bit h hs
  have h2 := tab_bit h hi
  have hl0 : 1 ≤ l := by
    unfold chkTab at h
    rw [Bool.and_eq_true] at h
    exact Nat.le_of_ble_eq_true h.1
  have hj : j % l < l := Nat.mod_lt _ hl0
  show ((X >>> (l * (s % l)) &&& X >>> (l * (i % l)) ||| Y >>> (l * (s % l)) &&& Y >>> (l * (i % l))) % 2 ^ l).testBit (j % l) = true
  rw [Nat.testBit_mod_two_pow, Nat.testBit_or, Nat.testBit_and, Nat.testBit_and, Nat.testBit_shiftRight, Nat.testBit_shiftRight, Nat.testBit_shiftRight, Nat.testBit_shiftRight]
  rw [decide_eq_true hj, Bool.true_and]
  rw [← hc] at h2
  cases hcc : col l ((1 + s * j) % l) with
  | true =>
    rw [hcc, cond_true] at h1
    rw [hcc, cond_true] at h2
    rw [h1, h2]; rfl
  | false =>
    rw [hcc, cond_false] at h1
    rw [hcc, cond_false] at h2
    rw [h1, h2]; simp

/-- The power, by digits to the base 256. -/
def pow3 (b e n : Nat) : Nat := powS 256 (powS 256 (Nat.mod (Nat.pow b (Nat.div e 65536)) n) b (Nat.div e 256) n) b e n
theorem pow3_eq (b e n : Nat) : pow3 b e n = b ^ e % n := by
  unfold pow3
  refine powS_eq (powS_eq ?_)
  show b ^ (e / 65536) % n = b ^ (e / 256 / 256) % n
  rw [Nat.div_div_eq_div_mul]

/-- Some base's power is not 1. -/
def tst3 (p e : Nat) : Bool := baseL.any fun b => !(Nat.beq (pow3 b e p) 1)
theorem tst3_not {p e : Nat} (h : tst3 p e = true) : ¬ Kills e p := by
  intro hk
  unfold tst3 at h
  rw [List.any_eq_true] at h
  obtain ⟨b, hb, hne⟩ := h
  rw [pow3_eq, hk b hb] at hne
  simp at hne

end Go.Proofs.YtpphfeinmmmckaaDoor
