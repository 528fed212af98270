/-
  Plain: half of y - 1 divides n - 1 for all primes below 11863283 (hfgen.py prints this text).
-/
import Derived.Test.YtpphfeinmmmckaaDoorMHalf
namespace Go.Proofs.YtpphfeinmmmckaaDoor
open Nt
set_option maxRecDepth 100000
theorem hfA0 : all8 kHalf 8192 20000 = true := by decide +kernel
theorem hfA1 : all8 kHalf 28192 20000 = true := by decide +kernel
theorem hfA2 : all8 kHalf 48192 20000 = true := by decide +kernel
theorem hfA3 : all8 kHalf 68192 20000 = true := by decide +kernel
theorem hfA4 : all8 kHalf 88192 20000 = true := by decide +kernel
theorem hfA5 : all8 kHalf 108192 20000 = true := by decide +kernel
theorem hfA6 : all8 kHalf 128192 20000 = true := by decide +kernel
theorem hfA7 : all8 kHalf 148192 20000 = true := by decide +kernel
theorem hfA8 : all8 kHalf 168192 20000 = true := by decide +kernel
theorem hfA9 : all8 kHalf 188192 20000 = true := by decide +kernel
theorem hfA10 : all8 kHalf 208192 20000 = true := by decide +kernel
theorem hfA11 : all8 kHalf 228192 20000 = true := by decide +kernel
theorem hfA12 : all8 kHalf 248192 20000 = true := by decide +kernel
theorem hfA13 : all8 kHalf 268192 20000 = true := by decide +kernel
theorem hfA14 : all8 kHalf 288192 20000 = true := by decide +kernel
theorem hfA15 : all8 kHalf 308192 20000 = true := by decide +kernel
theorem hfA16 : all8 kHalf 328192 20000 = true := by decide +kernel
theorem hfA17 : all8 kHalf 348192 20000 = true := by decide +kernel
theorem hfA18 : all8 kHalf 368192 20000 = true := by decide +kernel
theorem hfA19 : all8 kHalf 388192 20000 = true := by decide +kernel
theorem hfA20 : all8 kHalf 408192 20000 = true := by decide +kernel
theorem hfA21 : all8 kHalf 428192 20000 = true := by decide +kernel
theorem hfA22 : all8 kHalf 448192 20000 = true := by decide +kernel
theorem hfA23 : all8 kHalf 468192 20000 = true := by decide +kernel
theorem hfA24 : all8 kHalf 488192 20000 = true := by decide +kernel
theorem hfA25 : all8 kHalf 508192 20000 = true := by decide +kernel
theorem hfA26 : all8 kHalf 528192 20000 = true := by decide +kernel
theorem hfA27 : all8 kHalf 548192 20000 = true := by decide +kernel
theorem hfA28 : all8 kHalf 568192 20000 = true := by decide +kernel
theorem hfA29 : all8 kHalf 588192 20000 = true := by decide +kernel
theorem hfA30 : all8 kHalf 608192 20000 = true := by decide +kernel
theorem hfA31 : all8 kHalf 628192 20000 = true := by decide +kernel
theorem hfA32 : all8 kHalf 648192 20000 = true := by decide +kernel
theorem hfA33 : all8 kHalf 668192 20000 = true := by decide +kernel
theorem hfA34 : all8 kHalf 688192 20000 = true := by decide +kernel
theorem hfA35 : all8 kHalf 708192 20000 = true := by decide +kernel
theorem hfA36 : all8 kHalf 728192 20000 = true := by decide +kernel
theorem hfA (y : Nat) (ho : y % 2 = 1) (hl : ∀ l ∈ oddB, y % l ≠ 0) (h1 : 8192 ≤ y / 8) (h2 : y / 8 < 748192) : kHalf y = true := by
  rcases Nat.lt_or_ge (y / 8) 28192 with h | h
  · exact all8_spec hfA0 ho hl (by omega) (by omega)
  clear h1; have h1 := h; clear h
  rcases Nat.lt_or_ge (y / 8) 48192 with h | h
  · exact all8_spec hfA1 ho hl (by omega) (by omega)
  clear h1; have h1 := h; clear h
  rcases Nat.lt_or_ge (y / 8) 68192 with h | h
  · exact all8_spec hfA2 ho hl (by omega) (by omega)
  clear h1; have h1 := h; clear h
  rcases Nat.lt_or_ge (y / 8) 88192 with h | h
  · exact all8_spec hfA3 ho hl (by omega) (by omega)
  clear h1; have h1 := h; clear h
  rcases Nat.lt_or_ge (y / 8) 108192 with h | h
  · exact all8_spec hfA4 ho hl (by omega) (by omega)
  clear h1; have h1 := h; clear h
  rcases Nat.lt_or_ge (y / 8) 128192 with h | h
  · exact all8_spec hfA5 ho hl (by omega) (by omega)
  clear h1; have h1 := h; clear h
  rcases Nat.lt_or_ge (y / 8) 148192 with h | h
  · exact all8_spec hfA6 ho hl (by omega) (by omega)
  clear h1; have h1 := h; clear h
  rcases Nat.lt_or_ge (y / 8) 168192 with h | h
  · exact all8_spec hfA7 ho hl (by omega) (by omega)
  clear h1; have h1 := h; clear h
  rcases Nat.lt_or_ge (y / 8) 188192 with h | h
  · exact all8_spec hfA8 ho hl (by omega) (by omega)
  clear h1; have h1 := h; clear h
  rcases Nat.lt_or_ge (y / 8) 208192 with h | h
  · exact all8_spec hfA9 ho hl (by omega) (by omega)
  clear h1; have h1 := h; clear h
  rcases Nat.lt_or_ge (y / 8) 228192 with h | h
  · exact all8_spec hfA10 ho hl (by omega) (by omega)
  clear h1; have h1 := h; clear h
  rcases Nat.lt_or_ge (y / 8) 248192 with h | h
  · exact all8_spec hfA11 ho hl (by omega) (by omega)
  clear h1; have h1 := h; clear h
  rcases Nat.lt_or_ge (y / 8) 268192 with h | h
  · exact all8_spec hfA12 ho hl (by omega) (by omega)
  clear h1; have h1 := h; clear h
  rcases Nat.lt_or_ge (y / 8) 288192 with h | h
  · exact all8_spec hfA13 ho hl (by omega) (by omega)
  clear h1; have h1 := h; clear h
  rcases Nat.lt_or_ge (y / 8) 308192 with h | h
  · exact all8_spec hfA14 ho hl (by omega) (by omega)
  clear h1; have h1 := h; clear h
  rcases Nat.lt_or_ge (y / 8) 328192 with h | h
  · exact all8_spec hfA15 ho hl (by omega) (by omega)
  clear h1; have h1 := h; clear h
  rcases Nat.lt_or_ge (y / 8) 348192 with h | h
  · exact all8_spec hfA16 ho hl (by omega) (by omega)
  clear h1; have h1 := h; clear h
  rcases Nat.lt_or_ge (y / 8) 368192 with h | h
  · exact all8_spec hfA17 ho hl (by omega) (by omega)
  clear h1; have h1 := h; clear h
  rcases Nat.lt_or_ge (y / 8) 388192 with h | h
  · exact all8_spec hfA18 ho hl (by omega) (by omega)
  clear h1; have h1 := h; clear h
  rcases Nat.lt_or_ge (y / 8) 408192 with h | h
  · exact all8_spec hfA19 ho hl (by omega) (by omega)
  clear h1; have h1 := h; clear h
  rcases Nat.lt_or_ge (y / 8) 428192 with h | h
  · exact all8_spec hfA20 ho hl (by omega) (by omega)
  clear h1; have h1 := h; clear h
  rcases Nat.lt_or_ge (y / 8) 448192 with h | h
  · exact all8_spec hfA21 ho hl (by omega) (by omega)
  clear h1; have h1 := h; clear h
  rcases Nat.lt_or_ge (y / 8) 468192 with h | h
  · exact all8_spec hfA22 ho hl (by omega) (by omega)
  clear h1; have h1 := h; clear h
  rcases Nat.lt_or_ge (y / 8) 488192 with h | h
  · exact all8_spec hfA23 ho hl (by omega) (by omega)
  clear h1; have h1 := h; clear h
  rcases Nat.lt_or_ge (y / 8) 508192 with h | h
  · exact all8_spec hfA24 ho hl (by omega) (by omega)
  clear h1; have h1 := h; clear h
  rcases Nat.lt_or_ge (y / 8) 528192 with h | h
  · exact all8_spec hfA25 ho hl (by omega) (by omega)
  clear h1; have h1 := h; clear h
  rcases Nat.lt_or_ge (y / 8) 548192 with h | h
  · exact all8_spec hfA26 ho hl (by omega) (by omega)
  clear h1; have h1 := h; clear h
  rcases Nat.lt_or_ge (y / 8) 568192 with h | h
  · exact all8_spec hfA27 ho hl (by omega) (by omega)
  clear h1; have h1 := h; clear h
  rcases Nat.lt_or_ge (y / 8) 588192 with h | h
  · exact all8_spec hfA28 ho hl (by omega) (by omega)
  clear h1; have h1 := h; clear h
  rcases Nat.lt_or_ge (y / 8) 608192 with h | h
  · exact all8_spec hfA29 ho hl (by omega) (by omega)
  clear h1; have h1 := h; clear h
  rcases Nat.lt_or_ge (y / 8) 628192 with h | h
  · exact all8_spec hfA30 ho hl (by omega) (by omega)
  clear h1; have h1 := h; clear h
  rcases Nat.lt_or_ge (y / 8) 648192 with h | h
  · exact all8_spec hfA31 ho hl (by omega) (by omega)
  clear h1; have h1 := h; clear h
  rcases Nat.lt_or_ge (y / 8) 668192 with h | h
  · exact all8_spec hfA32 ho hl (by omega) (by omega)
  clear h1; have h1 := h; clear h
  rcases Nat.lt_or_ge (y / 8) 688192 with h | h
  · exact all8_spec hfA33 ho hl (by omega) (by omega)
  clear h1; have h1 := h; clear h
  rcases Nat.lt_or_ge (y / 8) 708192 with h | h
  · exact all8_spec hfA34 ho hl (by omega) (by omega)
  clear h1; have h1 := h; clear h
  rcases Nat.lt_or_ge (y / 8) 728192 with h | h
  · exact all8_spec hfA35 ho hl (by omega) (by omega)
  clear h1; have h1 := h; clear h
  exact all8_spec hfA36 ho hl (by omega) (by omega)
end Go.Proofs.YtpphfeinmmmckaaDoor

namespace Go.Proofs.YtpphfeinmmmckaaDoor
open Nt
set_option maxRecDepth 100000
theorem hfB0 : all8 kHalf 748192 20000 = true := by decide +kernel
theorem hfB1 : all8 kHalf 768192 20000 = true := by decide +kernel
theorem hfB2 : all8 kHalf 788192 20000 = true := by decide +kernel
theorem hfB3 : all8 kHalf 808192 20000 = true := by decide +kernel
theorem hfB4 : all8 kHalf 828192 20000 = true := by decide +kernel
theorem hfB5 : all8 kHalf 848192 20000 = true := by decide +kernel
theorem hfB6 : all8 kHalf 868192 20000 = true := by decide +kernel
theorem hfB7 : all8 kHalf 888192 20000 = true := by decide +kernel
theorem hfB8 : all8 kHalf 908192 20000 = true := by decide +kernel
theorem hfB9 : all8 kHalf 928192 20000 = true := by decide +kernel
theorem hfB10 : all8 kHalf 948192 20000 = true := by decide +kernel
theorem hfB11 : all8 kHalf 968192 20000 = true := by decide +kernel
theorem hfB12 : all8 kHalf 988192 20000 = true := by decide +kernel
theorem hfB13 : all8 kHalf 1008192 20000 = true := by decide +kernel
theorem hfB14 : all8 kHalf 1028192 20000 = true := by decide +kernel
theorem hfB15 : all8 kHalf 1048192 20000 = true := by decide +kernel
theorem hfB16 : all8 kHalf 1068192 20000 = true := by decide +kernel
theorem hfB17 : all8 kHalf 1088192 20000 = true := by decide +kernel
theorem hfB18 : all8 kHalf 1108192 20000 = true := by decide +kernel
theorem hfB19 : all8 kHalf 1128192 20000 = true := by decide +kernel
theorem hfB20 : all8 kHalf 1148192 20000 = true := by decide +kernel
theorem hfB21 : all8 kHalf 1168192 20000 = true := by decide +kernel
theorem hfB22 : all8 kHalf 1188192 20000 = true := by decide +kernel
theorem hfB23 : all8 kHalf 1208192 20000 = true := by decide +kernel
theorem hfB24 : all8 kHalf 1228192 20000 = true := by decide +kernel
theorem hfB25 : all8 kHalf 1248192 20000 = true := by decide +kernel
theorem hfB26 : all8 kHalf 1268192 20000 = true := by decide +kernel
theorem hfB27 : all8 kHalf 1288192 20000 = true := by decide +kernel
theorem hfB28 : all8 kHalf 1308192 20000 = true := by decide +kernel
theorem hfB29 : all8 kHalf 1328192 20000 = true := by decide +kernel
theorem hfB30 : all8 kHalf 1348192 20000 = true := by decide +kernel
theorem hfB31 : all8 kHalf 1368192 20000 = true := by decide +kernel
theorem hfB32 : all8 kHalf 1388192 20000 = true := by decide +kernel
theorem hfB33 : all8 kHalf 1408192 20000 = true := by decide +kernel
theorem hfB34 : all8 kHalf 1428192 20000 = true := by decide +kernel
theorem hfB35 : all8 kHalf 1448192 20000 = true := by decide +kernel
theorem hfB36 : all8 kHalf 1468192 20000 = true := by decide +kernel
theorem hfB (y : Nat) (ho : y % 2 = 1) (hl : ∀ l ∈ oddB, y % l ≠ 0) (h1 : 748192 ≤ y / 8) (h2 : y / 8 < 1488192) : kHalf y = true := by
  rcases Nat.lt_or_ge (y / 8) 768192 with h | h
  · exact all8_spec hfB0 ho hl (by omega) (by omega)
  clear h1; have h1 := h; clear h
  rcases Nat.lt_or_ge (y / 8) 788192 with h | h
  · exact all8_spec hfB1 ho hl (by omega) (by omega)
  clear h1; have h1 := h; clear h
  rcases Nat.lt_or_ge (y / 8) 808192 with h | h
  · exact all8_spec hfB2 ho hl (by omega) (by omega)
  clear h1; have h1 := h; clear h
  rcases Nat.lt_or_ge (y / 8) 828192 with h | h
  · exact all8_spec hfB3 ho hl (by omega) (by omega)
  clear h1; have h1 := h; clear h
  rcases Nat.lt_or_ge (y / 8) 848192 with h | h
  · exact all8_spec hfB4 ho hl (by omega) (by omega)
  clear h1; have h1 := h; clear h
  rcases Nat.lt_or_ge (y / 8) 868192 with h | h
  · exact all8_spec hfB5 ho hl (by omega) (by omega)
  clear h1; have h1 := h; clear h
  rcases Nat.lt_or_ge (y / 8) 888192 with h | h
  · exact all8_spec hfB6 ho hl (by omega) (by omega)
  clear h1; have h1 := h; clear h
  rcases Nat.lt_or_ge (y / 8) 908192 with h | h
  · exact all8_spec hfB7 ho hl (by omega) (by omega)
  clear h1; have h1 := h; clear h
  rcases Nat.lt_or_ge (y / 8) 928192 with h | h
  · exact all8_spec hfB8 ho hl (by omega) (by omega)
  clear h1; have h1 := h; clear h
  rcases Nat.lt_or_ge (y / 8) 948192 with h | h
  · exact all8_spec hfB9 ho hl (by omega) (by omega)
  clear h1; have h1 := h; clear h
  rcases Nat.lt_or_ge (y / 8) 968192 with h | h
  · exact all8_spec hfB10 ho hl (by omega) (by omega)
  clear h1; have h1 := h; clear h
  rcases Nat.lt_or_ge (y / 8) 988192 with h | h
  · exact all8_spec hfB11 ho hl (by omega) (by omega)
  clear h1; have h1 := h; clear h
  rcases Nat.lt_or_ge (y / 8) 1008192 with h | h
  · exact all8_spec hfB12 ho hl (by omega) (by omega)
  clear h1; have h1 := h; clear h
  rcases Nat.lt_or_ge (y / 8) 1028192 with h | h
  · exact all8_spec hfB13 ho hl (by omega) (by omega)
  clear h1; have h1 := h; clear h
  rcases Nat.lt_or_ge (y / 8) 1048192 with h | h
  · exact all8_spec hfB14 ho hl (by omega) (by omega)
  clear h1; have h1 := h; clear h
  rcases Nat.lt_or_ge (y / 8) 1068192 with h | h
  · exact all8_spec hfB15 ho hl (by omega) (by omega)
  clear h1; have h1 := h; clear h
  rcases Nat.lt_or_ge (y / 8) 1088192 with h | h
  · exact all8_spec hfB16 ho hl (by omega) (by omega)
  clear h1; have h1 := h; clear h
  rcases Nat.lt_or_ge (y / 8) 1108192 with h | h
  · exact all8_spec hfB17 ho hl (by omega) (by omega)
  clear h1; have h1 := h; clear h
  rcases Nat.lt_or_ge (y / 8) 1128192 with h | h
  · exact all8_spec hfB18 ho hl (by omega) (by omega)
  clear h1; have h1 := h; clear h
  rcases Nat.lt_or_ge (y / 8) 1148192 with h | h
  · exact all8_spec hfB19 ho hl (by omega) (by omega)
  clear h1; have h1 := h; clear h
  rcases Nat.lt_or_ge (y / 8) 1168192 with h | h
  · exact all8_spec hfB20 ho hl (by omega) (by omega)
  clear h1; have h1 := h; clear h
  rcases Nat.lt_or_ge (y / 8) 1188192 with h | h
  · exact all8_spec hfB21 ho hl (by omega) (by omega)
  clear h1; have h1 := h; clear h
  rcases Nat.lt_or_ge (y / 8) 1208192 with h | h
  · exact all8_spec hfB22 ho hl (by omega) (by omega)
  clear h1; have h1 := h; clear h
  rcases Nat.lt_or_ge (y / 8) 1228192 with h | h
  · exact all8_spec hfB23 ho hl (by omega) (by omega)
  clear h1; have h1 := h; clear h
  rcases Nat.lt_or_ge (y / 8) 1248192 with h | h
  · exact all8_spec hfB24 ho hl (by omega) (by omega)
  clear h1; have h1 := h; clear h
  rcases Nat.lt_or_ge (y / 8) 1268192 with h | h
  · exact all8_spec hfB25 ho hl (by omega) (by omega)
  clear h1; have h1 := h; clear h
  rcases Nat.lt_or_ge (y / 8) 1288192 with h | h
  · exact all8_spec hfB26 ho hl (by omega) (by omega)
  clear h1; have h1 := h; clear h
  rcases Nat.lt_or_ge (y / 8) 1308192 with h | h
  · exact all8_spec hfB27 ho hl (by omega) (by omega)
  clear h1; have h1 := h; clear h
  rcases Nat.lt_or_ge (y / 8) 1328192 with h | h
  · exact all8_spec hfB28 ho hl (by omega) (by omega)
  clear h1; have h1 := h; clear h
  rcases Nat.lt_or_ge (y / 8) 1348192 with h | h
  · exact all8_spec hfB29 ho hl (by omega) (by omega)
  clear h1; have h1 := h; clear h
  rcases Nat.lt_or_ge (y / 8) 1368192 with h | h
  · exact all8_spec hfB30 ho hl (by omega) (by omega)
  clear h1; have h1 := h; clear h
  rcases Nat.lt_or_ge (y / 8) 1388192 with h | h
  · exact all8_spec hfB31 ho hl (by omega) (by omega)
  clear h1; have h1 := h; clear h
  rcases Nat.lt_or_ge (y / 8) 1408192 with h | h
  · exact all8_spec hfB32 ho hl (by omega) (by omega)
  clear h1; have h1 := h; clear h
  rcases Nat.lt_or_ge (y / 8) 1428192 with h | h
  · exact all8_spec hfB33 ho hl (by omega) (by omega)
  clear h1; have h1 := h; clear h
  rcases Nat.lt_or_ge (y / 8) 1448192 with h | h
  · exact all8_spec hfB34 ho hl (by omega) (by omega)
  clear h1; have h1 := h; clear h
  rcases Nat.lt_or_ge (y / 8) 1468192 with h | h
  · exact all8_spec hfB35 ho hl (by omega) (by omega)
  clear h1; have h1 := h; clear h
  exact all8_spec hfB36 ho hl (by omega) (by omega)
end Go.Proofs.YtpphfeinmmmckaaDoor
