/-
  Plain: blocks of the sieve of special numbers, q below 2147483648: reckoned by the kernel (fablockgen.py prints this text).
-/
import Derived.Test.YtpphfeinmmmckaaDoorMFar
namespace Go.Proofs.YtpphfeinmmmckaaDoor
set_option maxRecDepth 100000
theorem fqA0 : spec8 kQ5 1048576 0 1 = true := by decide +kernel
theorem fqA1 : spec8 kQ5 1048576 1 1 = true := by decide +kernel
theorem fqA2 : spec8 kQ5 1048576 2 1 = true := by decide +kernel
theorem fqA3 : spec8 kQ5 1048576 3 1 = true := by decide +kernel
theorem fqA4 : spec8 kQ5 1048576 4 1 = true := by decide +kernel
theorem fqA5 : spec8 kQ5 1048576 5 1 = true := by decide +kernel
theorem fqA6 : spec8 kQ5 1048576 6 1 = true := by decide +kernel
theorem fqA7 : spec8 kQ5 1048576 7 1 = true := by decide +kernel
theorem fqA8 : spec8 kQ5 1048576 8 1 = true := by decide +kernel
theorem fqA9 : spec8 kQ5 1048576 9 1 = true := by decide +kernel
theorem fqA10 : spec8 kQ5 1048576 10 1 = true := by decide +kernel
theorem fqA11 : spec8 kQ5 1048576 11 1 = true := by decide +kernel
theorem fqA12 : spec8 kQ5 1048576 12 1 = true := by decide +kernel
theorem fqA13 : spec8 kQ5 1048576 13 1 = true := by decide +kernel
theorem fqA14 : spec8 kQ5 1048576 14 1 = true := by decide +kernel
theorem fqA15 : spec8 kQ5 1048576 15 1 = true := by decide +kernel
theorem fqA16 : spec8 kQ5 1048576 16 1 = true := by decide +kernel
theorem fqA17 : spec8 kQ5 1048576 17 1 = true := by decide +kernel
theorem fqA18 : spec8 kQ5 1048576 18 1 = true := by decide +kernel
theorem fqA19 : spec8 kQ5 1048576 19 1 = true := by decide +kernel
theorem fqA20 : spec8 kQ5 1048576 20 1 = true := by decide +kernel
theorem fqA21 : spec8 kQ5 1048576 21 1 = true := by decide +kernel
theorem fqA22 : spec8 kQ5 1048576 22 1 = true := by decide +kernel
theorem fqA23 : spec8 kQ5 1048576 23 1 = true := by decide +kernel
theorem fqA24 : spec8 kQ5 1048576 24 1 = true := by decide +kernel
theorem fqA25 : spec8 kQ5 1048576 25 1 = true := by decide +kernel
theorem fqA26 : spec8 kQ5 1048576 26 1 = true := by decide +kernel
theorem fqA27 : spec8 kQ5 1048576 27 1 = true := by decide +kernel
theorem fqA28 : spec8 kQ5 1048576 28 1 = true := by decide +kernel
theorem fqA29 : spec8 kQ5 1048576 29 1 = true := by decide +kernel
theorem fqA30 : spec8 kQ5 1048576 30 1 = true := by decide +kernel
theorem fqA31 : spec8 kQ5 1048576 31 1 = true := by decide +kernel
theorem fqA32 : spec8 kQ5 1048576 32 8 = true := by decide +kernel
theorem fqA33 : spec8 kQ5 1048576 40 8 = true := by decide +kernel
theorem fqA34 : spec8 kQ5 1048576 48 8 = true := by decide +kernel
theorem fqA35 : spec8 kQ5 1048576 56 8 = true := by decide +kernel
theorem fqA36 : spec8 kQ5 1048576 64 8 = true := by decide +kernel
theorem fqA37 : spec8 kQ5 1048576 72 8 = true := by decide +kernel
theorem fqA38 : spec8 kQ5 1048576 80 8 = true := by decide +kernel
theorem fqA39 : spec8 kQ5 1048576 88 8 = true := by decide +kernel
theorem fqA40 : spec8 kQ5 1048576 96 8 = true := by decide +kernel
theorem fqA41 : spec8 kQ5 1048576 104 8 = true := by decide +kernel
theorem fqA42 : spec8 kQ5 1048576 112 8 = true := by decide +kernel
theorem fqA43 : spec8 kQ5 1048576 120 8 = true := by decide +kernel
theorem fqA44 : spec8 kQ5 1048576 128 8 = true := by decide +kernel
theorem fqA45 : spec8 kQ5 1048576 136 8 = true := by decide +kernel
theorem fqA46 : spec8 kQ5 1048576 144 8 = true := by decide +kernel
theorem fqA47 : spec8 kQ5 1048576 152 8 = true := by decide +kernel
theorem fqA48 : spec8 kQ5 1048576 160 8 = true := by decide +kernel
theorem fqA49 : spec8 kQ5 1048576 168 8 = true := by decide +kernel
theorem fqA50 : spec8 kQ5 1048576 176 8 = true := by decide +kernel
theorem fqA51 : spec8 kQ5 1048576 184 8 = true := by decide +kernel
theorem fqA52 : spec8 kQ5 1048576 192 8 = true := by decide +kernel
theorem fqA53 : spec8 kQ5 1048576 200 8 = true := by decide +kernel
theorem fqA54 : spec8 kQ5 1048576 208 8 = true := by decide +kernel
theorem fqA55 : spec8 kQ5 1048576 216 8 = true := by decide +kernel
theorem fqA56 : spec8 kQ5 1048576 224 8 = true := by decide +kernel
theorem fqA57 : spec8 kQ5 1048576 232 8 = true := by decide +kernel
theorem fqA58 : spec8 kQ5 1048576 240 8 = true := by decide +kernel
theorem fqA59 : spec8 kQ5 1048576 248 8 = true := by decide +kernel
theorem fqA (u : Nat) (h1 : 0 ≤ u / 8) (h2 : u / 8 < 268435456) (h8 : u % 8 = 1) (hl : ∀ l ∈ oddB, u % l ≠ 0 ∧ leg l (u % l) = true) : kQ5 u = true := by
  have b1 : 0 ≤ u / 8 / 1048576 := by omega
  have b2 : u / 8 / 1048576 < 256 := by omega
  rcases Nat.lt_or_ge (u / 8 / 1048576) 30 with h | h
  · clear b2; have b2 := h; clear h
    rcases Nat.lt_or_ge (u / 8 / 1048576) 15 with h | h
    · clear b2; have b2 := h; clear h
      rcases Nat.lt_or_ge (u / 8 / 1048576) 7 with h | h
      · clear b2; have b2 := h; clear h
        rcases Nat.lt_or_ge (u / 8 / 1048576) 3 with h | h
        · clear b2; have b2 := h; clear h
          rcases Nat.lt_or_ge (u / 8 / 1048576) 1 with h | h
          · clear b2; have b2 := h; clear h
            exact spec8_spec fqA0 (by omega) h8 (by omega) (by omega) hl
          · clear b1; have b1 := h; clear h
            rcases Nat.lt_or_ge (u / 8 / 1048576) 2 with h | h
            · clear b2; have b2 := h; clear h
              exact spec8_spec fqA1 (by omega) h8 (by omega) (by omega) hl
            · clear b1; have b1 := h; clear h
              exact spec8_spec fqA2 (by omega) h8 (by omega) (by omega) hl
        · clear b1; have b1 := h; clear h
          rcases Nat.lt_or_ge (u / 8 / 1048576) 5 with h | h
          · clear b2; have b2 := h; clear h
            rcases Nat.lt_or_ge (u / 8 / 1048576) 4 with h | h
            · clear b2; have b2 := h; clear h
              exact spec8_spec fqA3 (by omega) h8 (by omega) (by omega) hl
            · clear b1; have b1 := h; clear h
              exact spec8_spec fqA4 (by omega) h8 (by omega) (by omega) hl
          · clear b1; have b1 := h; clear h
            rcases Nat.lt_or_ge (u / 8 / 1048576) 6 with h | h
            · clear b2; have b2 := h; clear h
              exact spec8_spec fqA5 (by omega) h8 (by omega) (by omega) hl
            · clear b1; have b1 := h; clear h
              exact spec8_spec fqA6 (by omega) h8 (by omega) (by omega) hl
      · clear b1; have b1 := h; clear h
        rcases Nat.lt_or_ge (u / 8 / 1048576) 11 with h | h
        · clear b2; have b2 := h; clear h
          rcases Nat.lt_or_ge (u / 8 / 1048576) 9 with h | h
          · clear b2; have b2 := h; clear h
            rcases Nat.lt_or_ge (u / 8 / 1048576) 8 with h | h
            · clear b2; have b2 := h; clear h
              exact spec8_spec fqA7 (by omega) h8 (by omega) (by omega) hl
            · clear b1; have b1 := h; clear h
              exact spec8_spec fqA8 (by omega) h8 (by omega) (by omega) hl
          · clear b1; have b1 := h; clear h
            rcases Nat.lt_or_ge (u / 8 / 1048576) 10 with h | h
            · clear b2; have b2 := h; clear h
              exact spec8_spec fqA9 (by omega) h8 (by omega) (by omega) hl
            · clear b1; have b1 := h; clear h
              exact spec8_spec fqA10 (by omega) h8 (by omega) (by omega) hl
        · clear b1; have b1 := h; clear h
          rcases Nat.lt_or_ge (u / 8 / 1048576) 13 with h | h
          · clear b2; have b2 := h; clear h
            rcases Nat.lt_or_ge (u / 8 / 1048576) 12 with h | h
            · clear b2; have b2 := h; clear h
              exact spec8_spec fqA11 (by omega) h8 (by omega) (by omega) hl
            · clear b1; have b1 := h; clear h
              exact spec8_spec fqA12 (by omega) h8 (by omega) (by omega) hl
          · clear b1; have b1 := h; clear h
            rcases Nat.lt_or_ge (u / 8 / 1048576) 14 with h | h
            · clear b2; have b2 := h; clear h
              exact spec8_spec fqA13 (by omega) h8 (by omega) (by omega) hl
            · clear b1; have b1 := h; clear h
              exact spec8_spec fqA14 (by omega) h8 (by omega) (by omega) hl
    · clear b1; have b1 := h; clear h
      rcases Nat.lt_or_ge (u / 8 / 1048576) 22 with h | h
      · clear b2; have b2 := h; clear h
        rcases Nat.lt_or_ge (u / 8 / 1048576) 18 with h | h
        · clear b2; have b2 := h; clear h
          rcases Nat.lt_or_ge (u / 8 / 1048576) 16 with h | h
          · clear b2; have b2 := h; clear h
            exact spec8_spec fqA15 (by omega) h8 (by omega) (by omega) hl
          · clear b1; have b1 := h; clear h
            rcases Nat.lt_or_ge (u / 8 / 1048576) 17 with h | h
            · clear b2; have b2 := h; clear h
              exact spec8_spec fqA16 (by omega) h8 (by omega) (by omega) hl
            · clear b1; have b1 := h; clear h
              exact spec8_spec fqA17 (by omega) h8 (by omega) (by omega) hl
        · clear b1; have b1 := h; clear h
          rcases Nat.lt_or_ge (u / 8 / 1048576) 20 with h | h
          · clear b2; have b2 := h; clear h
            rcases Nat.lt_or_ge (u / 8 / 1048576) 19 with h | h
            · clear b2; have b2 := h; clear h
              exact spec8_spec fqA18 (by omega) h8 (by omega) (by omega) hl
            · clear b1; have b1 := h; clear h
              exact spec8_spec fqA19 (by omega) h8 (by omega) (by omega) hl
          · clear b1; have b1 := h; clear h
            rcases Nat.lt_or_ge (u / 8 / 1048576) 21 with h | h
            · clear b2; have b2 := h; clear h
              exact spec8_spec fqA20 (by omega) h8 (by omega) (by omega) hl
            · clear b1; have b1 := h; clear h
              exact spec8_spec fqA21 (by omega) h8 (by omega) (by omega) hl
      · clear b1; have b1 := h; clear h
        rcases Nat.lt_or_ge (u / 8 / 1048576) 26 with h | h
        · clear b2; have b2 := h; clear h
          rcases Nat.lt_or_ge (u / 8 / 1048576) 24 with h | h
          · clear b2; have b2 := h; clear h
            rcases Nat.lt_or_ge (u / 8 / 1048576) 23 with h | h
            · clear b2; have b2 := h; clear h
              exact spec8_spec fqA22 (by omega) h8 (by omega) (by omega) hl
            · clear b1; have b1 := h; clear h
              exact spec8_spec fqA23 (by omega) h8 (by omega) (by omega) hl
          · clear b1; have b1 := h; clear h
            rcases Nat.lt_or_ge (u / 8 / 1048576) 25 with h | h
            · clear b2; have b2 := h; clear h
              exact spec8_spec fqA24 (by omega) h8 (by omega) (by omega) hl
            · clear b1; have b1 := h; clear h
              exact spec8_spec fqA25 (by omega) h8 (by omega) (by omega) hl
        · clear b1; have b1 := h; clear h
          rcases Nat.lt_or_ge (u / 8 / 1048576) 28 with h | h
          · clear b2; have b2 := h; clear h
            rcases Nat.lt_or_ge (u / 8 / 1048576) 27 with h | h
            · clear b2; have b2 := h; clear h
              exact spec8_spec fqA26 (by omega) h8 (by omega) (by omega) hl
            · clear b1; have b1 := h; clear h
              exact spec8_spec fqA27 (by omega) h8 (by omega) (by omega) hl
          · clear b1; have b1 := h; clear h
            rcases Nat.lt_or_ge (u / 8 / 1048576) 29 with h | h
            · clear b2; have b2 := h; clear h
              exact spec8_spec fqA28 (by omega) h8 (by omega) (by omega) hl
            · clear b1; have b1 := h; clear h
              exact spec8_spec fqA29 (by omega) h8 (by omega) (by omega) hl
  · clear b1; have b1 := h; clear h
    rcases Nat.lt_or_ge (u / 8 / 1048576) 136 with h | h
    · clear b2; have b2 := h; clear h
      rcases Nat.lt_or_ge (u / 8 / 1048576) 72 with h | h
      · clear b2; have b2 := h; clear h
        rcases Nat.lt_or_ge (u / 8 / 1048576) 40 with h | h
        · clear b2; have b2 := h; clear h
          rcases Nat.lt_or_ge (u / 8 / 1048576) 31 with h | h
          · clear b2; have b2 := h; clear h
            exact spec8_spec fqA30 (by omega) h8 (by omega) (by omega) hl
          · clear b1; have b1 := h; clear h
            rcases Nat.lt_or_ge (u / 8 / 1048576) 32 with h | h
            · clear b2; have b2 := h; clear h
              exact spec8_spec fqA31 (by omega) h8 (by omega) (by omega) hl
            · clear b1; have b1 := h; clear h
              exact spec8_spec fqA32 (by omega) h8 (by omega) (by omega) hl
        · clear b1; have b1 := h; clear h
          rcases Nat.lt_or_ge (u / 8 / 1048576) 56 with h | h
          · clear b2; have b2 := h; clear h
            rcases Nat.lt_or_ge (u / 8 / 1048576) 48 with h | h
            · clear b2; have b2 := h; clear h
              exact spec8_spec fqA33 (by omega) h8 (by omega) (by omega) hl
            · clear b1; have b1 := h; clear h
              exact spec8_spec fqA34 (by omega) h8 (by omega) (by omega) hl
          · clear b1; have b1 := h; clear h
            rcases Nat.lt_or_ge (u / 8 / 1048576) 64 with h | h
            · clear b2; have b2 := h; clear h
              exact spec8_spec fqA35 (by omega) h8 (by omega) (by omega) hl
            · clear b1; have b1 := h; clear h
              exact spec8_spec fqA36 (by omega) h8 (by omega) (by omega) hl
      · clear b1; have b1 := h; clear h
        rcases Nat.lt_or_ge (u / 8 / 1048576) 104 with h | h
        · clear b2; have b2 := h; clear h
          rcases Nat.lt_or_ge (u / 8 / 1048576) 88 with h | h
          · clear b2; have b2 := h; clear h
            rcases Nat.lt_or_ge (u / 8 / 1048576) 80 with h | h
            · clear b2; have b2 := h; clear h
              exact spec8_spec fqA37 (by omega) h8 (by omega) (by omega) hl
            · clear b1; have b1 := h; clear h
              exact spec8_spec fqA38 (by omega) h8 (by omega) (by omega) hl
          · clear b1; have b1 := h; clear h
            rcases Nat.lt_or_ge (u / 8 / 1048576) 96 with h | h
            · clear b2; have b2 := h; clear h
              exact spec8_spec fqA39 (by omega) h8 (by omega) (by omega) hl
            · clear b1; have b1 := h; clear h
              exact spec8_spec fqA40 (by omega) h8 (by omega) (by omega) hl
        · clear b1; have b1 := h; clear h
          rcases Nat.lt_or_ge (u / 8 / 1048576) 120 with h | h
          · clear b2; have b2 := h; clear h
            rcases Nat.lt_or_ge (u / 8 / 1048576) 112 with h | h
            · clear b2; have b2 := h; clear h
              exact spec8_spec fqA41 (by omega) h8 (by omega) (by omega) hl
            · clear b1; have b1 := h; clear h
              exact spec8_spec fqA42 (by omega) h8 (by omega) (by omega) hl
          · clear b1; have b1 := h; clear h
            rcases Nat.lt_or_ge (u / 8 / 1048576) 128 with h | h
            · clear b2; have b2 := h; clear h
              exact spec8_spec fqA43 (by omega) h8 (by omega) (by omega) hl
            · clear b1; have b1 := h; clear h
              exact spec8_spec fqA44 (by omega) h8 (by omega) (by omega) hl
    · clear b1; have b1 := h; clear h
      rcases Nat.lt_or_ge (u / 8 / 1048576) 192 with h | h
      · clear b2; have b2 := h; clear h
        rcases Nat.lt_or_ge (u / 8 / 1048576) 160 with h | h
        · clear b2; have b2 := h; clear h
          rcases Nat.lt_or_ge (u / 8 / 1048576) 144 with h | h
          · clear b2; have b2 := h; clear h
            exact spec8_spec fqA45 (by omega) h8 (by omega) (by omega) hl
          · clear b1; have b1 := h; clear h
            rcases Nat.lt_or_ge (u / 8 / 1048576) 152 with h | h
            · clear b2; have b2 := h; clear h
              exact spec8_spec fqA46 (by omega) h8 (by omega) (by omega) hl
            · clear b1; have b1 := h; clear h
              exact spec8_spec fqA47 (by omega) h8 (by omega) (by omega) hl
        · clear b1; have b1 := h; clear h
          rcases Nat.lt_or_ge (u / 8 / 1048576) 176 with h | h
          · clear b2; have b2 := h; clear h
            rcases Nat.lt_or_ge (u / 8 / 1048576) 168 with h | h
            · clear b2; have b2 := h; clear h
              exact spec8_spec fqA48 (by omega) h8 (by omega) (by omega) hl
            · clear b1; have b1 := h; clear h
              exact spec8_spec fqA49 (by omega) h8 (by omega) (by omega) hl
          · clear b1; have b1 := h; clear h
            rcases Nat.lt_or_ge (u / 8 / 1048576) 184 with h | h
            · clear b2; have b2 := h; clear h
              exact spec8_spec fqA50 (by omega) h8 (by omega) (by omega) hl
            · clear b1; have b1 := h; clear h
              exact spec8_spec fqA51 (by omega) h8 (by omega) (by omega) hl
      · clear b1; have b1 := h; clear h
        rcases Nat.lt_or_ge (u / 8 / 1048576) 224 with h | h
        · clear b2; have b2 := h; clear h
          rcases Nat.lt_or_ge (u / 8 / 1048576) 208 with h | h
          · clear b2; have b2 := h; clear h
            rcases Nat.lt_or_ge (u / 8 / 1048576) 200 with h | h
            · clear b2; have b2 := h; clear h
              exact spec8_spec fqA52 (by omega) h8 (by omega) (by omega) hl
            · clear b1; have b1 := h; clear h
              exact spec8_spec fqA53 (by omega) h8 (by omega) (by omega) hl
          · clear b1; have b1 := h; clear h
            rcases Nat.lt_or_ge (u / 8 / 1048576) 216 with h | h
            · clear b2; have b2 := h; clear h
              exact spec8_spec fqA54 (by omega) h8 (by omega) (by omega) hl
            · clear b1; have b1 := h; clear h
              exact spec8_spec fqA55 (by omega) h8 (by omega) (by omega) hl
        · clear b1; have b1 := h; clear h
          rcases Nat.lt_or_ge (u / 8 / 1048576) 240 with h | h
          · clear b2; have b2 := h; clear h
            rcases Nat.lt_or_ge (u / 8 / 1048576) 232 with h | h
            · clear b2; have b2 := h; clear h
              exact spec8_spec fqA56 (by omega) h8 (by omega) (by omega) hl
            · clear b1; have b1 := h; clear h
              exact spec8_spec fqA57 (by omega) h8 (by omega) (by omega) hl
          · clear b1; have b1 := h; clear h
            rcases Nat.lt_or_ge (u / 8 / 1048576) 248 with h | h
            · clear b2; have b2 := h; clear h
              exact spec8_spec fqA58 (by omega) h8 (by omega) (by omega) hl
            · clear b1; have b1 := h; clear h
              exact spec8_spec fqA59 (by omega) h8 (by omega) (by omega) hl
end Go.Proofs.YtpphfeinmmmckaaDoor
