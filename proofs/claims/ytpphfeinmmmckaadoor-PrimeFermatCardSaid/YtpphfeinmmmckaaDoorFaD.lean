/-
  Plain: blocks of the sieve of special numbers, w from 207232172032 to 274877906943: reckoned by the kernel (fablockgen.py prints this text).
-/
import Derived.Test.YtpphfeinmmmckaaDoorMFar
namespace Go.Proofs.YtpphfeinmmmckaaDoor
set_option maxRecDepth 100000
theorem faD0 : spec8 kW5 4194304 6176 48 = true := by decide +kernel
theorem faD1 : spec8 kW5 4194304 6224 48 = true := by decide +kernel
theorem faD2 : spec8 kW5 4194304 6272 48 = true := by decide +kernel
theorem faD3 : spec8 kW5 4194304 6320 48 = true := by decide +kernel
theorem faD4 : spec8 kW5 4194304 6368 48 = true := by decide +kernel
theorem faD5 : spec8 kW5 4194304 6416 48 = true := by decide +kernel
theorem faD6 : spec8 kW5 4194304 6464 48 = true := by decide +kernel
theorem faD7 : spec8 kW5 4194304 6512 48 = true := by decide +kernel
theorem faD8 : spec8 kW5 4194304 6560 48 = true := by decide +kernel
theorem faD9 : spec8 kW5 4194304 6608 48 = true := by decide +kernel
theorem faD10 : spec8 kW5 4194304 6656 48 = true := by decide +kernel
theorem faD11 : spec8 kW5 4194304 6704 48 = true := by decide +kernel
theorem faD12 : spec8 kW5 4194304 6752 48 = true := by decide +kernel
theorem faD13 : spec8 kW5 4194304 6800 48 = true := by decide +kernel
theorem faD14 : spec8 kW5 4194304 6848 48 = true := by decide +kernel
theorem faD15 : spec8 kW5 4194304 6896 48 = true := by decide +kernel
theorem faD16 : spec8 kW5 4194304 6944 48 = true := by decide +kernel
theorem faD17 : spec8 kW5 4194304 6992 48 = true := by decide +kernel
theorem faD18 : spec8 kW5 4194304 7040 48 = true := by decide +kernel
theorem faD19 : spec8 kW5 4194304 7088 48 = true := by decide +kernel
theorem faD20 : spec8 kW5 4194304 7136 48 = true := by decide +kernel
theorem faD21 : spec8 kW5 4194304 7184 48 = true := by decide +kernel
theorem faD22 : spec8 kW5 4194304 7232 48 = true := by decide +kernel
theorem faD23 : spec8 kW5 4194304 7280 48 = true := by decide +kernel
theorem faD24 : spec8 kW5 4194304 7328 48 = true := by decide +kernel
theorem faD25 : spec8 kW5 4194304 7376 48 = true := by decide +kernel
theorem faD26 : spec8 kW5 4194304 7424 48 = true := by decide +kernel
theorem faD27 : spec8 kW5 4194304 7472 48 = true := by decide +kernel
theorem faD28 : spec8 kW5 4194304 7520 48 = true := by decide +kernel
theorem faD29 : spec8 kW5 4194304 7568 48 = true := by decide +kernel
theorem faD30 : spec8 kW5 4194304 7616 48 = true := by decide +kernel
theorem faD31 : spec8 kW5 4194304 7664 48 = true := by decide +kernel
theorem faD32 : spec8 kW5 4194304 7712 48 = true := by decide +kernel
theorem faD33 : spec8 kW5 4194304 7760 48 = true := by decide +kernel
theorem faD34 : spec8 kW5 4194304 7808 48 = true := by decide +kernel
theorem faD35 : spec8 kW5 4194304 7856 48 = true := by decide +kernel
theorem faD36 : spec8 kW5 4194304 7904 48 = true := by decide +kernel
theorem faD37 : spec8 kW5 4194304 7952 48 = true := by decide +kernel
theorem faD38 : spec8 kW5 4194304 8000 48 = true := by decide +kernel
theorem faD39 : spec8 kW5 4194304 8048 48 = true := by decide +kernel
theorem faD40 : spec8 kW5 4194304 8096 48 = true := by decide +kernel
theorem faD41 : spec8 kW5 4194304 8144 48 = true := by decide +kernel
theorem faD (u : Nat) (h1 : 25904021504 ≤ u / 8) (h2 : u / 8 < 34359738368) (h8 : u % 8 = 1) (hl : ∀ l ∈ oddB, u % l ≠ 0 ∧ leg l (u % l) = true) : kW5 u = true := by
  have b1 : 6176 ≤ u / 8 / 4194304 := by omega
  have b2 : u / 8 / 4194304 < 8192 := by omega
  rcases Nat.lt_or_ge (u / 8 / 4194304) 7184 with h | h
  · clear b2; have b2 := h; clear h
    rcases Nat.lt_or_ge (u / 8 / 4194304) 6656 with h | h
    · clear b2; have b2 := h; clear h
      rcases Nat.lt_or_ge (u / 8 / 4194304) 6416 with h | h
      · clear b2; have b2 := h; clear h
        rcases Nat.lt_or_ge (u / 8 / 4194304) 6272 with h | h
        · clear b2; have b2 := h; clear h
          rcases Nat.lt_or_ge (u / 8 / 4194304) 6224 with h | h
          · clear b2; have b2 := h; clear h
            exact spec8_spec faD0 (by omega) h8 (by omega) (by omega) hl
          · clear b1; have b1 := h; clear h
            exact spec8_spec faD1 (by omega) h8 (by omega) (by omega) hl
        · clear b1; have b1 := h; clear h
          rcases Nat.lt_or_ge (u / 8 / 4194304) 6320 with h | h
          · clear b2; have b2 := h; clear h
            exact spec8_spec faD2 (by omega) h8 (by omega) (by omega) hl
          · clear b1; have b1 := h; clear h
            rcases Nat.lt_or_ge (u / 8 / 4194304) 6368 with h | h
            · clear b2; have b2 := h; clear h
              exact spec8_spec faD3 (by omega) h8 (by omega) (by omega) hl
            · clear b1; have b1 := h; clear h
              exact spec8_spec faD4 (by omega) h8 (by omega) (by omega) hl
      · clear b1; have b1 := h; clear h
        rcases Nat.lt_or_ge (u / 8 / 4194304) 6512 with h | h
        · clear b2; have b2 := h; clear h
          rcases Nat.lt_or_ge (u / 8 / 4194304) 6464 with h | h
          · clear b2; have b2 := h; clear h
            exact spec8_spec faD5 (by omega) h8 (by omega) (by omega) hl
          · clear b1; have b1 := h; clear h
            exact spec8_spec faD6 (by omega) h8 (by omega) (by omega) hl
        · clear b1; have b1 := h; clear h
          rcases Nat.lt_or_ge (u / 8 / 4194304) 6560 with h | h
          · clear b2; have b2 := h; clear h
            exact spec8_spec faD7 (by omega) h8 (by omega) (by omega) hl
          · clear b1; have b1 := h; clear h
            rcases Nat.lt_or_ge (u / 8 / 4194304) 6608 with h | h
            · clear b2; have b2 := h; clear h
              exact spec8_spec faD8 (by omega) h8 (by omega) (by omega) hl
            · clear b1; have b1 := h; clear h
              exact spec8_spec faD9 (by omega) h8 (by omega) (by omega) hl
    · clear b1; have b1 := h; clear h
      rcases Nat.lt_or_ge (u / 8 / 4194304) 6896 with h | h
      · clear b2; have b2 := h; clear h
        rcases Nat.lt_or_ge (u / 8 / 4194304) 6752 with h | h
        · clear b2; have b2 := h; clear h
          rcases Nat.lt_or_ge (u / 8 / 4194304) 6704 with h | h
          · clear b2; have b2 := h; clear h
            exact spec8_spec faD10 (by omega) h8 (by omega) (by omega) hl
          · clear b1; have b1 := h; clear h
            exact spec8_spec faD11 (by omega) h8 (by omega) (by omega) hl
        · clear b1; have b1 := h; clear h
          rcases Nat.lt_or_ge (u / 8 / 4194304) 6800 with h | h
          · clear b2; have b2 := h; clear h
            exact spec8_spec faD12 (by omega) h8 (by omega) (by omega) hl
          · clear b1; have b1 := h; clear h
            rcases Nat.lt_or_ge (u / 8 / 4194304) 6848 with h | h
            · clear b2; have b2 := h; clear h
              exact spec8_spec faD13 (by omega) h8 (by omega) (by omega) hl
            · clear b1; have b1 := h; clear h
              exact spec8_spec faD14 (by omega) h8 (by omega) (by omega) hl
      · clear b1; have b1 := h; clear h
        rcases Nat.lt_or_ge (u / 8 / 4194304) 7040 with h | h
        · clear b2; have b2 := h; clear h
          rcases Nat.lt_or_ge (u / 8 / 4194304) 6944 with h | h
          · clear b2; have b2 := h; clear h
            exact spec8_spec faD15 (by omega) h8 (by omega) (by omega) hl
          · clear b1; have b1 := h; clear h
            rcases Nat.lt_or_ge (u / 8 / 4194304) 6992 with h | h
            · clear b2; have b2 := h; clear h
              exact spec8_spec faD16 (by omega) h8 (by omega) (by omega) hl
            · clear b1; have b1 := h; clear h
              exact spec8_spec faD17 (by omega) h8 (by omega) (by omega) hl
        · clear b1; have b1 := h; clear h
          rcases Nat.lt_or_ge (u / 8 / 4194304) 7088 with h | h
          · clear b2; have b2 := h; clear h
            exact spec8_spec faD18 (by omega) h8 (by omega) (by omega) hl
          · clear b1; have b1 := h; clear h
            rcases Nat.lt_or_ge (u / 8 / 4194304) 7136 with h | h
            · clear b2; have b2 := h; clear h
              exact spec8_spec faD19 (by omega) h8 (by omega) (by omega) hl
            · clear b1; have b1 := h; clear h
              exact spec8_spec faD20 (by omega) h8 (by omega) (by omega) hl
  · clear b1; have b1 := h; clear h
    rcases Nat.lt_or_ge (u / 8 / 4194304) 7664 with h | h
    · clear b2; have b2 := h; clear h
      rcases Nat.lt_or_ge (u / 8 / 4194304) 7424 with h | h
      · clear b2; have b2 := h; clear h
        rcases Nat.lt_or_ge (u / 8 / 4194304) 7280 with h | h
        · clear b2; have b2 := h; clear h
          rcases Nat.lt_or_ge (u / 8 / 4194304) 7232 with h | h
          · clear b2; have b2 := h; clear h
            exact spec8_spec faD21 (by omega) h8 (by omega) (by omega) hl
          · clear b1; have b1 := h; clear h
            exact spec8_spec faD22 (by omega) h8 (by omega) (by omega) hl
        · clear b1; have b1 := h; clear h
          rcases Nat.lt_or_ge (u / 8 / 4194304) 7328 with h | h
          · clear b2; have b2 := h; clear h
            exact spec8_spec faD23 (by omega) h8 (by omega) (by omega) hl
          · clear b1; have b1 := h; clear h
            rcases Nat.lt_or_ge (u / 8 / 4194304) 7376 with h | h
            · clear b2; have b2 := h; clear h
              exact spec8_spec faD24 (by omega) h8 (by omega) (by omega) hl
            · clear b1; have b1 := h; clear h
              exact spec8_spec faD25 (by omega) h8 (by omega) (by omega) hl
      · clear b1; have b1 := h; clear h
        rcases Nat.lt_or_ge (u / 8 / 4194304) 7520 with h | h
        · clear b2; have b2 := h; clear h
          rcases Nat.lt_or_ge (u / 8 / 4194304) 7472 with h | h
          · clear b2; have b2 := h; clear h
            exact spec8_spec faD26 (by omega) h8 (by omega) (by omega) hl
          · clear b1; have b1 := h; clear h
            exact spec8_spec faD27 (by omega) h8 (by omega) (by omega) hl
        · clear b1; have b1 := h; clear h
          rcases Nat.lt_or_ge (u / 8 / 4194304) 7568 with h | h
          · clear b2; have b2 := h; clear h
            exact spec8_spec faD28 (by omega) h8 (by omega) (by omega) hl
          · clear b1; have b1 := h; clear h
            rcases Nat.lt_or_ge (u / 8 / 4194304) 7616 with h | h
            · clear b2; have b2 := h; clear h
              exact spec8_spec faD29 (by omega) h8 (by omega) (by omega) hl
            · clear b1; have b1 := h; clear h
              exact spec8_spec faD30 (by omega) h8 (by omega) (by omega) hl
    · clear b1; have b1 := h; clear h
      rcases Nat.lt_or_ge (u / 8 / 4194304) 7904 with h | h
      · clear b2; have b2 := h; clear h
        rcases Nat.lt_or_ge (u / 8 / 4194304) 7760 with h | h
        · clear b2; have b2 := h; clear h
          rcases Nat.lt_or_ge (u / 8 / 4194304) 7712 with h | h
          · clear b2; have b2 := h; clear h
            exact spec8_spec faD31 (by omega) h8 (by omega) (by omega) hl
          · clear b1; have b1 := h; clear h
            exact spec8_spec faD32 (by omega) h8 (by omega) (by omega) hl
        · clear b1; have b1 := h; clear h
          rcases Nat.lt_or_ge (u / 8 / 4194304) 7808 with h | h
          · clear b2; have b2 := h; clear h
            exact spec8_spec faD33 (by omega) h8 (by omega) (by omega) hl
          · clear b1; have b1 := h; clear h
            rcases Nat.lt_or_ge (u / 8 / 4194304) 7856 with h | h
            · clear b2; have b2 := h; clear h
              exact spec8_spec faD34 (by omega) h8 (by omega) (by omega) hl
            · clear b1; have b1 := h; clear h
              exact spec8_spec faD35 (by omega) h8 (by omega) (by omega) hl
      · clear b1; have b1 := h; clear h
        rcases Nat.lt_or_ge (u / 8 / 4194304) 8048 with h | h
        · clear b2; have b2 := h; clear h
          rcases Nat.lt_or_ge (u / 8 / 4194304) 7952 with h | h
          · clear b2; have b2 := h; clear h
            exact spec8_spec faD36 (by omega) h8 (by omega) (by omega) hl
          · clear b1; have b1 := h; clear h
            rcases Nat.lt_or_ge (u / 8 / 4194304) 8000 with h | h
            · clear b2; have b2 := h; clear h
              exact spec8_spec faD37 (by omega) h8 (by omega) (by omega) hl
            · clear b1; have b1 := h; clear h
              exact spec8_spec faD38 (by omega) h8 (by omega) (by omega) hl
        · clear b1; have b1 := h; clear h
          rcases Nat.lt_or_ge (u / 8 / 4194304) 8096 with h | h
          · clear b2; have b2 := h; clear h
            exact spec8_spec faD39 (by omega) h8 (by omega) (by omega) hl
          · clear b1; have b1 := h; clear h
            rcases Nat.lt_or_ge (u / 8 / 4194304) 8144 with h | h
            · clear b2; have b2 := h; clear h
              exact spec8_spec faD40 (by omega) h8 (by omega) (by omega) hl
            · clear b1; have b1 := h; clear h
              exact spec8_spec faD41 (by omega) h8 (by omega) (by omega) hl
end Go.Proofs.YtpphfeinmmmckaaDoor
