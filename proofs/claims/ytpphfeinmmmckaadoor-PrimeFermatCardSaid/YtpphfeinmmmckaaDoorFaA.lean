/-
  Plain: blocks of the sieve of special numbers, w from 4294967296 to 71940702207: reckoned by the kernel (fablockgen.py prints this text).
-/
import Derived.Test.YtpphfeinmmmckaaDoorMFar
namespace Go.Proofs.YtpphfeinmmmckaaDoor
set_option maxRecDepth 100000
theorem faA0 : spec8 kW5 4194304 128 48 = true := by decide +kernel
theorem faA1 : spec8 kW5 4194304 176 48 = true := by decide +kernel
theorem faA2 : spec8 kW5 4194304 224 48 = true := by decide +kernel
theorem faA3 : spec8 kW5 4194304 272 48 = true := by decide +kernel
theorem faA4 : spec8 kW5 4194304 320 48 = true := by decide +kernel
theorem faA5 : spec8 kW5 4194304 368 48 = true := by decide +kernel
theorem faA6 : spec8 kW5 4194304 416 48 = true := by decide +kernel
theorem faA7 : spec8 kW5 4194304 464 48 = true := by decide +kernel
theorem faA8 : spec8 kW5 4194304 512 48 = true := by decide +kernel
theorem faA9 : spec8 kW5 4194304 560 48 = true := by decide +kernel
theorem faA10 : spec8 kW5 4194304 608 48 = true := by decide +kernel
theorem faA11 : spec8 kW5 4194304 656 48 = true := by decide +kernel
theorem faA12 : spec8 kW5 4194304 704 48 = true := by decide +kernel
theorem faA13 : spec8 kW5 4194304 752 48 = true := by decide +kernel
theorem faA14 : spec8 kW5 4194304 800 48 = true := by decide +kernel
theorem faA15 : spec8 kW5 4194304 848 48 = true := by decide +kernel
theorem faA16 : spec8 kW5 4194304 896 48 = true := by decide +kernel
theorem faA17 : spec8 kW5 4194304 944 48 = true := by decide +kernel
theorem faA18 : spec8 kW5 4194304 992 48 = true := by decide +kernel
theorem faA19 : spec8 kW5 4194304 1040 48 = true := by decide +kernel
theorem faA20 : spec8 kW5 4194304 1088 48 = true := by decide +kernel
theorem faA21 : spec8 kW5 4194304 1136 48 = true := by decide +kernel
theorem faA22 : spec8 kW5 4194304 1184 48 = true := by decide +kernel
theorem faA23 : spec8 kW5 4194304 1232 48 = true := by decide +kernel
theorem faA24 : spec8 kW5 4194304 1280 48 = true := by decide +kernel
theorem faA25 : spec8 kW5 4194304 1328 48 = true := by decide +kernel
theorem faA26 : spec8 kW5 4194304 1376 48 = true := by decide +kernel
theorem faA27 : spec8 kW5 4194304 1424 48 = true := by decide +kernel
theorem faA28 : spec8 kW5 4194304 1472 48 = true := by decide +kernel
theorem faA29 : spec8 kW5 4194304 1520 48 = true := by decide +kernel
theorem faA30 : spec8 kW5 4194304 1568 48 = true := by decide +kernel
theorem faA31 : spec8 kW5 4194304 1616 48 = true := by decide +kernel
theorem faA32 : spec8 kW5 4194304 1664 48 = true := by decide +kernel
theorem faA33 : spec8 kW5 4194304 1712 48 = true := by decide +kernel
theorem faA34 : spec8 kW5 4194304 1760 48 = true := by decide +kernel
theorem faA35 : spec8 kW5 4194304 1808 48 = true := by decide +kernel
theorem faA36 : spec8 kW5 4194304 1856 48 = true := by decide +kernel
theorem faA37 : spec8 kW5 4194304 1904 48 = true := by decide +kernel
theorem faA38 : spec8 kW5 4194304 1952 48 = true := by decide +kernel
theorem faA39 : spec8 kW5 4194304 2000 48 = true := by decide +kernel
theorem faA40 : spec8 kW5 4194304 2048 48 = true := by decide +kernel
theorem faA41 : spec8 kW5 4194304 2096 48 = true := by decide +kernel
theorem faA (u : Nat) (h1 : 536870912 ≤ u / 8) (h2 : u / 8 < 8992587776) (h8 : u % 8 = 1) (hl : ∀ l ∈ oddB, u % l ≠ 0 ∧ leg l (u % l) = true) : kW5 u = true := by
  have b1 : 128 ≤ u / 8 / 4194304 := by omega
  have b2 : u / 8 / 4194304 < 2144 := by omega
  rcases Nat.lt_or_ge (u / 8 / 4194304) 1136 with h | h
  · clear b2; have b2 := h; clear h
    rcases Nat.lt_or_ge (u / 8 / 4194304) 608 with h | h
    · clear b2; have b2 := h; clear h
      rcases Nat.lt_or_ge (u / 8 / 4194304) 368 with h | h
      · clear b2; have b2 := h; clear h
        rcases Nat.lt_or_ge (u / 8 / 4194304) 224 with h | h
        · clear b2; have b2 := h; clear h
          rcases Nat.lt_or_ge (u / 8 / 4194304) 176 with h | h
          · clear b2; have b2 := h; clear h
            exact spec8_spec faA0 (by omega) h8 (by omega) (by omega) hl
          · clear b1; have b1 := h; clear h
            exact spec8_spec faA1 (by omega) h8 (by omega) (by omega) hl
        · clear b1; have b1 := h; clear h
          rcases Nat.lt_or_ge (u / 8 / 4194304) 272 with h | h
          · clear b2; have b2 := h; clear h
            exact spec8_spec faA2 (by omega) h8 (by omega) (by omega) hl
          · clear b1; have b1 := h; clear h
            rcases Nat.lt_or_ge (u / 8 / 4194304) 320 with h | h
            · clear b2; have b2 := h; clear h
              exact spec8_spec faA3 (by omega) h8 (by omega) (by omega) hl
            · clear b1; have b1 := h; clear h
              exact spec8_spec faA4 (by omega) h8 (by omega) (by omega) hl
      · clear b1; have b1 := h; clear h
        rcases Nat.lt_or_ge (u / 8 / 4194304) 464 with h | h
        · clear b2; have b2 := h; clear h
          rcases Nat.lt_or_ge (u / 8 / 4194304) 416 with h | h
          · clear b2; have b2 := h; clear h
            exact spec8_spec faA5 (by omega) h8 (by omega) (by omega) hl
          · clear b1; have b1 := h; clear h
            exact spec8_spec faA6 (by omega) h8 (by omega) (by omega) hl
        · clear b1; have b1 := h; clear h
          rcases Nat.lt_or_ge (u / 8 / 4194304) 512 with h | h
          · clear b2; have b2 := h; clear h
            exact spec8_spec faA7 (by omega) h8 (by omega) (by omega) hl
          · clear b1; have b1 := h; clear h
            rcases Nat.lt_or_ge (u / 8 / 4194304) 560 with h | h
            · clear b2; have b2 := h; clear h
              exact spec8_spec faA8 (by omega) h8 (by omega) (by omega) hl
            · clear b1; have b1 := h; clear h
              exact spec8_spec faA9 (by omega) h8 (by omega) (by omega) hl
    · clear b1; have b1 := h; clear h
      rcases Nat.lt_or_ge (u / 8 / 4194304) 848 with h | h
      · clear b2; have b2 := h; clear h
        rcases Nat.lt_or_ge (u / 8 / 4194304) 704 with h | h
        · clear b2; have b2 := h; clear h
          rcases Nat.lt_or_ge (u / 8 / 4194304) 656 with h | h
          · clear b2; have b2 := h; clear h
            exact spec8_spec faA10 (by omega) h8 (by omega) (by omega) hl
          · clear b1; have b1 := h; clear h
            exact spec8_spec faA11 (by omega) h8 (by omega) (by omega) hl
        · clear b1; have b1 := h; clear h
          rcases Nat.lt_or_ge (u / 8 / 4194304) 752 with h | h
          · clear b2; have b2 := h; clear h
            exact spec8_spec faA12 (by omega) h8 (by omega) (by omega) hl
          · clear b1; have b1 := h; clear h
            rcases Nat.lt_or_ge (u / 8 / 4194304) 800 with h | h
            · clear b2; have b2 := h; clear h
              exact spec8_spec faA13 (by omega) h8 (by omega) (by omega) hl
            · clear b1; have b1 := h; clear h
              exact spec8_spec faA14 (by omega) h8 (by omega) (by omega) hl
      · clear b1; have b1 := h; clear h
        rcases Nat.lt_or_ge (u / 8 / 4194304) 992 with h | h
        · clear b2; have b2 := h; clear h
          rcases Nat.lt_or_ge (u / 8 / 4194304) 896 with h | h
          · clear b2; have b2 := h; clear h
            exact spec8_spec faA15 (by omega) h8 (by omega) (by omega) hl
          · clear b1; have b1 := h; clear h
            rcases Nat.lt_or_ge (u / 8 / 4194304) 944 with h | h
            · clear b2; have b2 := h; clear h
              exact spec8_spec faA16 (by omega) h8 (by omega) (by omega) hl
            · clear b1; have b1 := h; clear h
              exact spec8_spec faA17 (by omega) h8 (by omega) (by omega) hl
        · clear b1; have b1 := h; clear h
          rcases Nat.lt_or_ge (u / 8 / 4194304) 1040 with h | h
          · clear b2; have b2 := h; clear h
            exact spec8_spec faA18 (by omega) h8 (by omega) (by omega) hl
          · clear b1; have b1 := h; clear h
            rcases Nat.lt_or_ge (u / 8 / 4194304) 1088 with h | h
            · clear b2; have b2 := h; clear h
              exact spec8_spec faA19 (by omega) h8 (by omega) (by omega) hl
            · clear b1; have b1 := h; clear h
              exact spec8_spec faA20 (by omega) h8 (by omega) (by omega) hl
  · clear b1; have b1 := h; clear h
    rcases Nat.lt_or_ge (u / 8 / 4194304) 1616 with h | h
    · clear b2; have b2 := h; clear h
      rcases Nat.lt_or_ge (u / 8 / 4194304) 1376 with h | h
      · clear b2; have b2 := h; clear h
        rcases Nat.lt_or_ge (u / 8 / 4194304) 1232 with h | h
        · clear b2; have b2 := h; clear h
          rcases Nat.lt_or_ge (u / 8 / 4194304) 1184 with h | h
          · clear b2; have b2 := h; clear h
            exact spec8_spec faA21 (by omega) h8 (by omega) (by omega) hl
          · clear b1; have b1 := h; clear h
            exact spec8_spec faA22 (by omega) h8 (by omega) (by omega) hl
        · clear b1; have b1 := h; clear h
          rcases Nat.lt_or_ge (u / 8 / 4194304) 1280 with h | h
          · clear b2; have b2 := h; clear h
            exact spec8_spec faA23 (by omega) h8 (by omega) (by omega) hl
          · clear b1; have b1 := h; clear h
            rcases Nat.lt_or_ge (u / 8 / 4194304) 1328 with h | h
            · clear b2; have b2 := h; clear h
              exact spec8_spec faA24 (by omega) h8 (by omega) (by omega) hl
            · clear b1; have b1 := h; clear h
              exact spec8_spec faA25 (by omega) h8 (by omega) (by omega) hl
      · clear b1; have b1 := h; clear h
        rcases Nat.lt_or_ge (u / 8 / 4194304) 1472 with h | h
        · clear b2; have b2 := h; clear h
          rcases Nat.lt_or_ge (u / 8 / 4194304) 1424 with h | h
          · clear b2; have b2 := h; clear h
            exact spec8_spec faA26 (by omega) h8 (by omega) (by omega) hl
          · clear b1; have b1 := h; clear h
            exact spec8_spec faA27 (by omega) h8 (by omega) (by omega) hl
        · clear b1; have b1 := h; clear h
          rcases Nat.lt_or_ge (u / 8 / 4194304) 1520 with h | h
          · clear b2; have b2 := h; clear h
            exact spec8_spec faA28 (by omega) h8 (by omega) (by omega) hl
          · clear b1; have b1 := h; clear h
            rcases Nat.lt_or_ge (u / 8 / 4194304) 1568 with h | h
            · clear b2; have b2 := h; clear h
              exact spec8_spec faA29 (by omega) h8 (by omega) (by omega) hl
            · clear b1; have b1 := h; clear h
              exact spec8_spec faA30 (by omega) h8 (by omega) (by omega) hl
    · clear b1; have b1 := h; clear h
      rcases Nat.lt_or_ge (u / 8 / 4194304) 1856 with h | h
      · clear b2; have b2 := h; clear h
        rcases Nat.lt_or_ge (u / 8 / 4194304) 1712 with h | h
        · clear b2; have b2 := h; clear h
          rcases Nat.lt_or_ge (u / 8 / 4194304) 1664 with h | h
          · clear b2; have b2 := h; clear h
            exact spec8_spec faA31 (by omega) h8 (by omega) (by omega) hl
          · clear b1; have b1 := h; clear h
            exact spec8_spec faA32 (by omega) h8 (by omega) (by omega) hl
        · clear b1; have b1 := h; clear h
          rcases Nat.lt_or_ge (u / 8 / 4194304) 1760 with h | h
          · clear b2; have b2 := h; clear h
            exact spec8_spec faA33 (by omega) h8 (by omega) (by omega) hl
          · clear b1; have b1 := h; clear h
            rcases Nat.lt_or_ge (u / 8 / 4194304) 1808 with h | h
            · clear b2; have b2 := h; clear h
              exact spec8_spec faA34 (by omega) h8 (by omega) (by omega) hl
            · clear b1; have b1 := h; clear h
              exact spec8_spec faA35 (by omega) h8 (by omega) (by omega) hl
      · clear b1; have b1 := h; clear h
        rcases Nat.lt_or_ge (u / 8 / 4194304) 2000 with h | h
        · clear b2; have b2 := h; clear h
          rcases Nat.lt_or_ge (u / 8 / 4194304) 1904 with h | h
          · clear b2; have b2 := h; clear h
            exact spec8_spec faA36 (by omega) h8 (by omega) (by omega) hl
          · clear b1; have b1 := h; clear h
            rcases Nat.lt_or_ge (u / 8 / 4194304) 1952 with h | h
            · clear b2; have b2 := h; clear h
              exact spec8_spec faA37 (by omega) h8 (by omega) (by omega) hl
            · clear b1; have b1 := h; clear h
              exact spec8_spec faA38 (by omega) h8 (by omega) (by omega) hl
        · clear b1; have b1 := h; clear h
          rcases Nat.lt_or_ge (u / 8 / 4194304) 2048 with h | h
          · clear b2; have b2 := h; clear h
            exact spec8_spec faA39 (by omega) h8 (by omega) (by omega) hl
          · clear b1; have b1 := h; clear h
            rcases Nat.lt_or_ge (u / 8 / 4194304) 2096 with h | h
            · clear b2; have b2 := h; clear h
              exact spec8_spec faA40 (by omega) h8 (by omega) (by omega) hl
            · clear b1; have b1 := h; clear h
              exact spec8_spec faA41 (by omega) h8 (by omega) (by omega) hl
end Go.Proofs.YtpphfeinmmmckaaDoor
