/-
  Plain: the special primes of the blocks 0 to 0, each with its check: reckoned by the kernel (xsgen.py prints this text).
-/
import Derived.Test.YtpphfeinmmmckaaDoorXs
namespace Go.Proofs.YtpphfeinmmmckaaDoor
open Nt
set_option maxRecDepth 100000
def sl0 : List Nat := [1083289, 2043001, 3818929, 4280329, 5390449, 5829121, 6104641, 6500209, 6589969, 6868801, 7504561, 7623529, 7887889, 7921489, 8254801]
theorem slk0 : spec8 (kL sl0) 1048576 0 1 = true := by decide +kernel
theorem xq1083289_0 : xPart 1083289 495 36425 = true := by decide +kernel
theorem xq1083289_1 : xPart 1083289 36920 36425 = true := by decide +kernel
theorem xq1083289_2 : xPart 1083289 73345 36425 = true := by decide +kernel
theorem xq1083289_3 : xPart 1083289 109770 36425 = true := by decide +kernel
theorem xq1083289_4 : xPart 1083289 146195 36425 = true := by decide +kernel
theorem xq1083289_5 : xPart 1083289 182620 36425 = true := by decide +kernel
theorem xq1083289_6 : xPart 1083289 219045 36425 = true := by decide +kernel
theorem xq1083289_7 : xPart 1083289 255470 36425 = true := by decide +kernel
theorem xq1083289_8 : xPart 1083289 291895 36425 = true := by decide +kernel
theorem xq1083289_9 : xPart 1083289 328320 36425 = true := by decide +kernel
theorem xh1083289 : xHead 1083289 = true := by decide +kernel
theorem xt1083289 : Nat.ble (topX 1083289) 2917959 && Nat.ble 3960 (Nat.div 4294967296 1083289) = true := by decide +kernel
theorem xp1083289 : XP 1083289 := by
  have ht := xt1083289
  rw [Bool.and_eq_true] at ht
  have h1 : topX 1083289 ≤ 2917959 := Nat.le_of_ble_eq_true ht.1
  refine ⟨xh1083289, fun y ho hl a b => ?_⟩
  clear ht
  rcases Nat.lt_or_ge (y / 8) 36920 with h | h
  · exact xPart_spec xq1083289_0 ho hl (by omega) (by omega)
  clear a; have a := h; clear h
  rcases Nat.lt_or_ge (y / 8) 73345 with h | h
  · exact xPart_spec xq1083289_1 ho hl (by omega) (by omega)
  clear a; have a := h; clear h
  rcases Nat.lt_or_ge (y / 8) 109770 with h | h
  · exact xPart_spec xq1083289_2 ho hl (by omega) (by omega)
  clear a; have a := h; clear h
  rcases Nat.lt_or_ge (y / 8) 146195 with h | h
  · exact xPart_spec xq1083289_3 ho hl (by omega) (by omega)
  clear a; have a := h; clear h
  rcases Nat.lt_or_ge (y / 8) 182620 with h | h
  · exact xPart_spec xq1083289_4 ho hl (by omega) (by omega)
  clear a; have a := h; clear h
  rcases Nat.lt_or_ge (y / 8) 219045 with h | h
  · exact xPart_spec xq1083289_5 ho hl (by omega) (by omega)
  clear a; have a := h; clear h
  rcases Nat.lt_or_ge (y / 8) 255470 with h | h
  · exact xPart_spec xq1083289_6 ho hl (by omega) (by omega)
  clear a; have a := h; clear h
  rcases Nat.lt_or_ge (y / 8) 291895 with h | h
  · exact xPart_spec xq1083289_7 ho hl (by omega) (by omega)
  clear a; have a := h; clear h
  rcases Nat.lt_or_ge (y / 8) 328320 with h | h
  · exact xPart_spec xq1083289_8 ho hl (by omega) (by omega)
  clear a; have a := h; clear h
  exact xPart_spec xq1083289_9 ho hl (by omega) (by omega)
theorem xq2043001_0 : xPart 2043001 262 37905 = true := by decide +kernel
theorem xq2043001_1 : xPart 2043001 38167 37905 = true := by decide +kernel
theorem xq2043001_2 : xPart 2043001 76072 37905 = true := by decide +kernel
theorem xq2043001_3 : xPart 2043001 113977 37905 = true := by decide +kernel
theorem xq2043001_4 : xPart 2043001 151882 37905 = true := by decide +kernel
theorem xq2043001_5 : xPart 2043001 189787 37905 = true := by decide +kernel
theorem xq2043001_6 : xPart 2043001 227692 37905 = true := by decide +kernel
theorem xh2043001 : xHead 2043001 = true := by decide +kernel
theorem xt2043001 : Nat.ble (topX 2043001) 2124775 && Nat.ble 2096 (Nat.div 4294967296 2043001) = true := by decide +kernel
theorem xp2043001 : XP 2043001 := by
  have ht := xt2043001
  rw [Bool.and_eq_true] at ht
  have h1 : topX 2043001 ≤ 2124775 := Nat.le_of_ble_eq_true ht.1
  refine ⟨xh2043001, fun y ho hl a b => ?_⟩
  clear ht
  rcases Nat.lt_or_ge (y / 8) 38167 with h | h
  · exact xPart_spec xq2043001_0 ho hl (by omega) (by omega)
  clear a; have a := h; clear h
  rcases Nat.lt_or_ge (y / 8) 76072 with h | h
  · exact xPart_spec xq2043001_1 ho hl (by omega) (by omega)
  clear a; have a := h; clear h
  rcases Nat.lt_or_ge (y / 8) 113977 with h | h
  · exact xPart_spec xq2043001_2 ho hl (by omega) (by omega)
  clear a; have a := h; clear h
  rcases Nat.lt_or_ge (y / 8) 151882 with h | h
  · exact xPart_spec xq2043001_3 ho hl (by omega) (by omega)
  clear a; have a := h; clear h
  rcases Nat.lt_or_ge (y / 8) 189787 with h | h
  · exact xPart_spec xq2043001_4 ho hl (by omega) (by omega)
  clear a; have a := h; clear h
  rcases Nat.lt_or_ge (y / 8) 227692 with h | h
  · exact xPart_spec xq2043001_5 ho hl (by omega) (by omega)
  clear a; have a := h; clear h
  exact xPart_spec xq2043001_6 ho hl (by omega) (by omega)
theorem xq3818929_0 : xPart 3818929 140 26305 = true := by decide +kernel
theorem xq3818929_1 : xPart 3818929 26445 26305 = true := by decide +kernel
theorem xq3818929_2 : xPart 3818929 52750 26305 = true := by decide +kernel
theorem xh3818929 : xHead 3818929 = true := by decide +kernel
theorem xt3818929 : Nat.ble (topX 3818929) 632439 && Nat.ble 1120 (Nat.div 4294967296 3818929) = true := by decide +kernel
theorem xp3818929 : XP 3818929 := by
  have ht := xt3818929
  rw [Bool.and_eq_true] at ht
  have h1 : topX 3818929 ≤ 632439 := Nat.le_of_ble_eq_true ht.1
  refine ⟨xh3818929, fun y ho hl a b => ?_⟩
  clear ht
  rcases Nat.lt_or_ge (y / 8) 26445 with h | h
  · exact xPart_spec xq3818929_0 ho hl (by omega) (by omega)
  clear a; have a := h; clear h
  rcases Nat.lt_or_ge (y / 8) 52750 with h | h
  · exact xPart_spec xq3818929_1 ho hl (by omega) (by omega)
  clear a; have a := h; clear h
  exact xPart_spec xq3818929_2 ho hl (by omega) (by omega)
theorem xq4280329_0 : xPart 4280329 125 31402 = true := by decide +kernel
theorem xq4280329_1 : xPart 4280329 31527 31402 = true := by decide +kernel
theorem xh4280329 : xHead 4280329 = true := by decide +kernel
theorem xt4280329 : Nat.ble (topX 4280329) 503431 && Nat.ble 1000 (Nat.div 4294967296 4280329) = true := by decide +kernel
theorem xp4280329 : XP 4280329 := by
  have ht := xt4280329
  rw [Bool.and_eq_true] at ht
  have h1 : topX 4280329 ≤ 503431 := Nat.le_of_ble_eq_true ht.1
  refine ⟨xh4280329, fun y ho hl a b => ?_⟩
  clear ht
  rcases Nat.lt_or_ge (y / 8) 31527 with h | h
  · exact xPart_spec xq4280329_0 ho hl (by omega) (by omega)
  clear a; have a := h; clear h
  exact xPart_spec xq4280329_1 ho hl (by omega) (by omega)
theorem slx0_0 : allX [5390449] = true := by decide +kernel
theorem slx0_1 : allX [5829121] = true := by decide +kernel
theorem slx0_2 : allX [6104641] = true := by decide +kernel
theorem slx0_3 : allX [6500209] = true := by decide +kernel
theorem slx0_4 : allX [6589969] = true := by decide +kernel
theorem slx0_5 : allX [6868801] = true := by decide +kernel
theorem slx0_6 : allX [7504561] = true := by decide +kernel
theorem slx0_7 : allX [7623529] = true := by decide +kernel
theorem slx0_8 : allX [7887889] = true := by decide +kernel
theorem slx0_9 : allX [7921489, 8254801] = true := by decide +kernel
theorem sla0 : ∀ x ∈ sl0, XP x := by
  have e : sl0 = [1083289] ++ [2043001] ++ [3818929] ++ [4280329] ++ [5390449] ++ [5829121] ++ [6104641] ++ [6500209] ++ [6589969] ++ [6868801] ++ [7504561] ++ [7623529] ++ [7887889] ++ [7921489, 8254801] := by decide +kernel
  intro x hx
  rw [e] at hx
  simp only [List.mem_append] at hx
  rcases hx with ((((((((((((h | h) | h) | h) | h) | h) | h) | h) | h) | h) | h) | h) | h) | h
  · rw [List.mem_singleton] at h; rw [h]; exact xp1083289
  · rw [List.mem_singleton] at h; rw [h]; exact xp2043001
  · rw [List.mem_singleton] at h; rw [h]; exact xp3818929
  · rw [List.mem_singleton] at h; rw [h]; exact xp4280329
  · exact allX_spec slx0_0 x h
  · exact allX_spec slx0_1 x h
  · exact allX_spec slx0_2 x h
  · exact allX_spec slx0_3 x h
  · exact allX_spec slx0_4 x h
  · exact allX_spec slx0_5 x h
  · exact allX_spec slx0_6 x h
  · exact allX_spec slx0_7 x h
  · exact allX_spec slx0_8 x h
  · exact allX_spec slx0_9 x h
theorem xsa (u : Nat) (hu : Prime u) (h16 : 65537 ≤ u) (h1 : 0 ≤ u / 8 / 1048576) (h2 : u / 8 / 1048576 < 1) (h8 : u % 8 = 1) (hl : ∀ l ∈ oddB, u % l ≠ 0 ∧ leg l (u % l) = true) : XP u := by
  exact sla0 u (kL_spec (spec8_spec slk0 (by omega) h8 (by omega) (by omega) hl) hu (by omega))
end Go.Proofs.YtpphfeinmmmckaaDoor
