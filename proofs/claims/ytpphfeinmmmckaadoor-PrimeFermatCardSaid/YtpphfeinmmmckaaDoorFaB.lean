/-
  Plain: blocks of the sieve of special numbers, w from 71940702208 to 139586437119: reckoned by the kernel (fablockgen.py prints this text).
-/
import Derived.Test.YtpphfeinmmmckaaDoorMFar
namespace Go.Proofs.YtpphfeinmmmckaaDoor
set_option maxRecDepth 100000
theorem faB0 : spec8 kW5 4194304 2144 48 = true := by decide +kernel
theorem faB1 : spec8 kW5 4194304 2192 48 = true := by decide +kernel
theorem faB2 : spec8 kW5 4194304 2240 48 = true := by decide +kernel
theorem faB3 : spec8 kW5 4194304 2288 48 = true := by decide +kernel
theorem faB4 : spec8 kW5 4194304 2336 48 = true := by decide +kernel
theorem faB5 : spec8 kW5 4194304 2384 48 = true := by decide +kernel
theorem faB6 : spec8 kW5 4194304 2432 48 = true := by decide +kernel
theorem faB7 : spec8 kW5 4194304 2480 48 = true := by decide +kernel
theorem faB8 : spec8 kW5 4194304 2528 48 = true := by decide +kernel
theorem faB9 : spec8 kW5 4194304 2576 48 = true := by decide +kernel
theorem faB10 : spec8 kW5 4194304 2624 48 = true := by decide +kernel
theorem faB11 : spec8 kW5 4194304 2672 48 = true := by decide +kernel
theorem faB12 : spec8 kW5 4194304 2720 48 = true := by decide +kernel
theorem faB13 : spec8 kW5 4194304 2768 48 = true := by decide +kernel
theorem faB14 : spec8 kW5 4194304 2816 48 = true := by decide +kernel
theorem faB15 : spec8 kW5 4194304 2864 48 = true := by decide +kernel
theorem faB16 : spec8 kW5 4194304 2912 48 = true := by decide +kernel
theorem faB17 : spec8 kW5 4194304 2960 48 = true := by decide +kernel
theorem faB18 : spec8 kW5 4194304 3008 48 = true := by decide +kernel
theorem faB19 : spec8 kW5 4194304 3056 48 = true := by decide +kernel
theorem faB20 : spec8 kW5 4194304 3104 48 = true := by decide +kernel
theorem faB21 : spec8 kW5 4194304 3152 48 = true := by decide +kernel
theorem faB22 : spec8 kW5 4194304 3200 48 = true := by decide +kernel
theorem faB23 : spec8 kW5 4194304 3248 48 = true := by decide +kernel
theorem faB24 : spec8 kW5 4194304 3296 48 = true := by decide +kernel
theorem faB25 : spec8 kW5 4194304 3344 48 = true := by decide +kernel
theorem faB26 : spec8 kW5 4194304 3392 48 = true := by decide +kernel
theorem faB27 : spec8 kW5 4194304 3440 48 = true := by decide +kernel
theorem faB28 : spec8 kW5 4194304 3488 48 = true := by decide +kernel
theorem faB29 : spec8 kW5 4194304 3536 48 = true := by decide +kernel
theorem faB30 : spec8 kW5 4194304 3584 48 = true := by decide +kernel
theorem faB31 : spec8 kW5 4194304 3632 48 = true := by decide +kernel
theorem faB32 : spec8 kW5 4194304 3680 48 = true := by decide +kernel
theorem faB33 : spec8 kW5 4194304 3728 48 = true := by decide +kernel
theorem faB34 : spec8 kW5 4194304 3776 48 = true := by decide +kernel
theorem faB35 : spec8 kW5 4194304 3824 48 = true := by decide +kernel
theorem faB36 : spec8 kW5 4194304 3872 48 = true := by decide +kernel
theorem faB37 : spec8 kW5 4194304 3920 48 = true := by decide +kernel
theorem faB38 : spec8 kW5 4194304 3968 48 = true := by decide +kernel
theorem faB39 : spec8 kW5 4194304 4016 48 = true := by decide +kernel
theorem faB40 : spec8 kW5 4194304 4064 48 = true := by decide +kernel
theorem faB41 : spec8 kW5 4194304 4112 48 = true := by decide +kernel
theorem faB (u : Nat) (h1 : 8992587776 ≤ u / 8) (h2 : u / 8 < 17448304640) (h8 : u % 8 = 1) (hl : ∀ l ∈ oddB, u % l ≠ 0 ∧ leg l (u % l) = true) : kW5 u = true := by
  have b1 : 2144 ≤ u / 8 / 4194304 := by omega
  have b2 : u / 8 / 4194304 < 4160 := by omega
  rcases Nat.lt_or_ge (u / 8 / 4194304) 3152 with h | h
  · clear b2; have b2 := h; clear h
    rcases Nat.lt_or_ge (u / 8 / 4194304) 2624 with h | h
    · clear b2; have b2 := h; clear h
      rcases Nat.lt_or_ge (u / 8 / 4194304) 2384 with h | h
      · clear b2; have b2 := h; clear h
        rcases Nat.lt_or_ge (u / 8 / 4194304) 2240 with h | h
        · clear b2; have b2 := h; clear h
          rcases Nat.lt_or_ge (u / 8 / 4194304) 2192 with h | h
          · clear b2; have b2 := h; clear h
            exact spec8_spec faB0 (by omega) h8 (by omega) (by omega) hl
          · clear b1; have b1 := h; clear h
            exact spec8_spec faB1 (by omega) h8 (by omega) (by omega) hl
        · clear b1; have b1 := h; clear h
          rcases Nat.lt_or_ge (u / 8 / 4194304) 2288 with h | h
          · clear b2; have b2 := h; clear h
            exact spec8_spec faB2 (by omega) h8 (by omega) (by omega) hl
          · clear b1; have b1 := h; clear h
            rcases Nat.lt_or_ge (u / 8 / 4194304) 2336 with h | h
            · clear b2; have b2 := h; clear h
              exact spec8_spec faB3 (by omega) h8 (by omega) (by omega) hl
            · clear b1; have b1 := h; clear h
              exact spec8_spec faB4 (by omega) h8 (by omega) (by omega) hl
      · clear b1; have b1 := h; clear h
        rcases Nat.lt_or_ge (u / 8 / 4194304) 2480 with h | h
        · clear b2; have b2 := h; clear h
          rcases Nat.lt_or_ge (u / 8 / 4194304) 2432 with h | h
          · clear b2; have b2 := h; clear h
            exact spec8_spec faB5 (by omega) h8 (by omega) (by omega) hl
          · clear b1; have b1 := h; clear h
            exact spec8_spec faB6 (by omega) h8 (by omega) (by omega) hl
        · clear b1; have b1 := h; clear h
          rcases Nat.lt_or_ge (u / 8 / 4194304) 2528 with h | h
          · clear b2; have b2 := h; clear h
            exact spec8_spec faB7 (by omega) h8 (by omega) (by omega) hl
          · clear b1; have b1 := h; clear h
            rcases Nat.lt_or_ge (u / 8 / 4194304) 2576 with h | h
            · clear b2; have b2 := h; clear h
              exact spec8_spec faB8 (by omega) h8 (by omega) (by omega) hl
            · clear b1; have b1 := h; clear h
              exact spec8_spec faB9 (by omega) h8 (by omega) (by omega) hl
    · clear b1; have b1 := h; clear h
      rcases Nat.lt_or_ge (u / 8 / 4194304) 2864 with h | h
      · clear b2; have b2 := h; clear h
        rcases Nat.lt_or_ge (u / 8 / 4194304) 2720 with h | h
        · clear b2; have b2 := h; clear h
          rcases Nat.lt_or_ge (u / 8 / 4194304) 2672 with h | h
          · clear b2; have b2 := h; clear h
            exact spec8_spec faB10 (by omega) h8 (by omega) (by omega) hl
          · clear b1; have b1 := h; clear h
            exact spec8_spec faB11 (by omega) h8 (by omega) (by omega) hl
        · clear b1; have b1 := h; clear h
          rcases Nat.lt_or_ge (u / 8 / 4194304) 2768 with h | h
          · clear b2; have b2 := h; clear h
            exact spec8_spec faB12 (by omega) h8 (by omega) (by omega) hl
          · clear b1; have b1 := h; clear h
            rcases Nat.lt_or_ge (u / 8 / 4194304) 2816 with h | h
            · clear b2; have b2 := h; clear h
              exact spec8_spec faB13 (by omega) h8 (by omega) (by omega) hl
            · clear b1; have b1 := h; clear h
              exact spec8_spec faB14 (by omega) h8 (by omega) (by omega) hl
      · clear b1; have b1 := h; clear h
        rcases Nat.lt_or_ge (u / 8 / 4194304) 3008 with h | h
        · clear b2; have b2 := h; clear h
          rcases Nat.lt_or_ge (u / 8 / 4194304) 2912 with h | h
          · clear b2; have b2 := h; clear h
            exact spec8_spec faB15 (by omega) h8 (by omega) (by omega) hl
          · clear b1; have b1 := h; clear h
            rcases Nat.lt_or_ge (u / 8 / 4194304) 2960 with h | h
            · clear b2; have b2 := h; clear h
              exact spec8_spec faB16 (by omega) h8 (by omega) (by omega) hl
            · clear b1; have b1 := h; clear h
              exact spec8_spec faB17 (by omega) h8 (by omega) (by omega) hl
        · clear b1; have b1 := h; clear h
          rcases Nat.lt_or_ge (u / 8 / 4194304) 3056 with h | h
          · clear b2; have b2 := h; clear h
            exact spec8_spec faB18 (by omega) h8 (by omega) (by omega) hl
          · clear b1; have b1 := h; clear h
            rcases Nat.lt_or_ge (u / 8 / 4194304) 3104 with h | h
            · clear b2; have b2 := h; clear h
              exact spec8_spec faB19 (by omega) h8 (by omega) (by omega) hl
            · clear b1; have b1 := h; clear h
              exact spec8_spec faB20 (by omega) h8 (by omega) (by omega) hl
  · clear b1; have b1 := h; clear h
    rcases Nat.lt_or_ge (u / 8 / 4194304) 3632 with h | h
    · clear b2; have b2 := h; clear h
      rcases Nat.lt_or_ge (u / 8 / 4194304) 3392 with h | h
      · clear b2; have b2 := h; clear h
        rcases Nat.lt_or_ge (u / 8 / 4194304) 3248 with h | h
        · clear b2; have b2 := h; clear h
          rcases Nat.lt_or_ge (u / 8 / 4194304) 3200 with h | h
          · clear b2; have b2 := h; clear h
            exact spec8_spec faB21 (by omega) h8 (by omega) (by omega) hl
          · clear b1; have b1 := h; clear h
            exact spec8_spec faB22 (by omega) h8 (by omega) (by omega) hl
        · clear b1; have b1 := h; clear h
          rcases Nat.lt_or_ge (u / 8 / 4194304) 3296 with h | h
          · clear b2; have b2 := h; clear h
            exact spec8_spec faB23 (by omega) h8 (by omega) (by omega) hl
          · clear b1; have b1 := h; clear h
            rcases Nat.lt_or_ge (u / 8 / 4194304) 3344 with h | h
            · clear b2; have b2 := h; clear h
              exact spec8_spec faB24 (by omega) h8 (by omega) (by omega) hl
            · clear b1; have b1 := h; clear h
              exact spec8_spec faB25 (by omega) h8 (by omega) (by omega) hl
      · clear b1; have b1 := h; clear h
        rcases Nat.lt_or_ge (u / 8 / 4194304) 3488 with h | h
        · clear b2; have b2 := h; clear h
          rcases Nat.lt_or_ge (u / 8 / 4194304) 3440 with h | h
          · clear b2; have b2 := h; clear h
            exact spec8_spec faB26 (by omega) h8 (by omega) (by omega) hl
          · clear b1; have b1 := h; clear h
            exact spec8_spec faB27 (by omega) h8 (by omega) (by omega) hl
        · clear b1; have b1 := h; clear h
          rcases Nat.lt_or_ge (u / 8 / 4194304) 3536 with h | h
          · clear b2; have b2 := h; clear h
            exact spec8_spec faB28 (by omega) h8 (by omega) (by omega) hl
          · clear b1; have b1 := h; clear h
            rcases Nat.lt_or_ge (u / 8 / 4194304) 3584 with h | h
            · clear b2; have b2 := h; clear h
              exact spec8_spec faB29 (by omega) h8 (by omega) (by omega) hl
            · clear b1; have b1 := h; clear h
              exact spec8_spec faB30 (by omega) h8 (by omega) (by omega) hl
    · clear b1; have b1 := h; clear h
      rcases Nat.lt_or_ge (u / 8 / 4194304) 3872 with h | h
      · clear b2; have b2 := h; clear h
        rcases Nat.lt_or_ge (u / 8 / 4194304) 3728 with h | h
        · clear b2; have b2 := h; clear h
          rcases Nat.lt_or_ge (u / 8 / 4194304) 3680 with h | h
          · clear b2; have b2 := h; clear h
            exact spec8_spec faB31 (by omega) h8 (by omega) (by omega) hl
          · clear b1; have b1 := h; clear h
            exact spec8_spec faB32 (by omega) h8 (by omega) (by omega) hl
        · clear b1; have b1 := h; clear h
          rcases Nat.lt_or_ge (u / 8 / 4194304) 3776 with h | h
          · clear b2; have b2 := h; clear h
            exact spec8_spec faB33 (by omega) h8 (by omega) (by omega) hl
          · clear b1; have b1 := h; clear h
            rcases Nat.lt_or_ge (u / 8 / 4194304) 3824 with h | h
            · clear b2; have b2 := h; clear h
              exact spec8_spec faB34 (by omega) h8 (by omega) (by omega) hl
            · clear b1; have b1 := h; clear h
              exact spec8_spec faB35 (by omega) h8 (by omega) (by omega) hl
      · clear b1; have b1 := h; clear h
        rcases Nat.lt_or_ge (u / 8 / 4194304) 4016 with h | h
        · clear b2; have b2 := h; clear h
          rcases Nat.lt_or_ge (u / 8 / 4194304) 3920 with h | h
          · clear b2; have b2 := h; clear h
            exact spec8_spec faB36 (by omega) h8 (by omega) (by omega) hl
          · clear b1; have b1 := h; clear h
            rcases Nat.lt_or_ge (u / 8 / 4194304) 3968 with h | h
            · clear b2; have b2 := h; clear h
              exact spec8_spec faB37 (by omega) h8 (by omega) (by omega) hl
            · clear b1; have b1 := h; clear h
              exact spec8_spec faB38 (by omega) h8 (by omega) (by omega) hl
        · clear b1; have b1 := h; clear h
          rcases Nat.lt_or_ge (u / 8 / 4194304) 4064 with h | h
          · clear b2; have b2 := h; clear h
            exact spec8_spec faB39 (by omega) h8 (by omega) (by omega) hl
          · clear b1; have b1 := h; clear h
            rcases Nat.lt_or_ge (u / 8 / 4194304) 4112 with h | h
            · clear b2; have b2 := h; clear h
              exact spec8_spec faB40 (by omega) h8 (by omega) (by omega) hl
            · clear b1; have b1 := h; clear h
              exact spec8_spec faB41 (by omega) h8 (by omega) (by omega) hl
end Go.Proofs.YtpphfeinmmmckaaDoor
