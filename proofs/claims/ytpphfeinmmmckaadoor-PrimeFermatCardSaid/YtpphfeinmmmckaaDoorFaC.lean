/-
  Plain: blocks of the sieve of special numbers, w from 139586437120 to 207232172031: reckoned by the kernel (fablockgen.py prints this text).
-/
import Derived.Test.YtpphfeinmmmckaaDoorMFar
namespace Go.Proofs.YtpphfeinmmmckaaDoor
set_option maxRecDepth 100000
theorem faC0 : spec8 kW5 4194304 4160 48 = true := by decide +kernel
theorem faC1 : spec8 kW5 4194304 4208 48 = true := by decide +kernel
theorem faC2 : spec8 kW5 4194304 4256 48 = true := by decide +kernel
theorem faC3 : spec8 kW5 4194304 4304 48 = true := by decide +kernel
theorem faC4 : spec8 kW5 4194304 4352 48 = true := by decide +kernel
theorem faC5 : spec8 kW5 4194304 4400 48 = true := by decide +kernel
theorem faC6 : spec8 kW5 4194304 4448 48 = true := by decide +kernel
theorem faC7 : spec8 kW5 4194304 4496 48 = true := by decide +kernel
theorem faC8 : spec8 kW5 4194304 4544 48 = true := by decide +kernel
theorem faC9 : spec8 kW5 4194304 4592 48 = true := by decide +kernel
theorem faC10 : spec8 kW5 4194304 4640 48 = true := by decide +kernel
theorem faC11 : spec8 kW5 4194304 4688 48 = true := by decide +kernel
theorem faC12 : spec8 kW5 4194304 4736 48 = true := by decide +kernel
theorem faC13 : spec8 kW5 4194304 4784 48 = true := by decide +kernel
theorem faC14 : spec8 kW5 4194304 4832 48 = true := by decide +kernel
theorem faC15 : spec8 kW5 4194304 4880 48 = true := by decide +kernel
theorem faC16 : spec8 kW5 4194304 4928 48 = true := by decide +kernel
theorem faC17 : spec8 kW5 4194304 4976 48 = true := by decide +kernel
theorem faC18 : spec8 kW5 4194304 5024 48 = true := by decide +kernel
theorem faC19 : spec8 kW5 4194304 5072 48 = true := by decide +kernel
theorem faC20 : spec8 kW5 4194304 5120 48 = true := by decide +kernel
theorem faC21 : spec8 kW5 4194304 5168 48 = true := by decide +kernel
theorem faC22 : spec8 kW5 4194304 5216 48 = true := by decide +kernel
theorem faC23 : spec8 kW5 4194304 5264 48 = true := by decide +kernel
theorem faC24 : spec8 kW5 4194304 5312 48 = true := by decide +kernel
theorem faC25 : spec8 kW5 4194304 5360 48 = true := by decide +kernel
theorem faC26 : spec8 kW5 4194304 5408 48 = true := by decide +kernel
theorem faC27 : spec8 kW5 4194304 5456 48 = true := by decide +kernel
theorem faC28 : spec8 kW5 4194304 5504 48 = true := by decide +kernel
theorem faC29 : spec8 kW5 4194304 5552 48 = true := by decide +kernel
theorem faC30 : spec8 kW5 4194304 5600 48 = true := by decide +kernel
theorem faC31 : spec8 kW5 4194304 5648 48 = true := by decide +kernel
theorem faC32 : spec8 kW5 4194304 5696 48 = true := by decide +kernel
theorem faC33 : spec8 kW5 4194304 5744 48 = true := by decide +kernel
theorem faC34 : spec8 kW5 4194304 5792 48 = true := by decide +kernel
theorem faC35 : spec8 kW5 4194304 5840 48 = true := by decide +kernel
theorem faC36 : spec8 kW5 4194304 5888 48 = true := by decide +kernel
theorem faC37 : spec8 kW5 4194304 5936 48 = true := by decide +kernel
theorem faC38 : spec8 kW5 4194304 5984 48 = true := by decide +kernel
theorem faC39 : spec8 kW5 4194304 6032 48 = true := by decide +kernel
theorem faC40 : spec8 kW5 4194304 6080 48 = true := by decide +kernel
theorem faC41 : spec8 kW5 4194304 6128 48 = true := by decide +kernel
theorem faC (u : Nat) (h1 : 17448304640 ≤ u / 8) (h2 : u / 8 < 25904021504) (h8 : u % 8 = 1) (hl : ∀ l ∈ oddB, u % l ≠ 0 ∧ leg l (u % l) = true) : kW5 u = true := by
  have b1 : 4160 ≤ u / 8 / 4194304 := by omega
  have b2 : u / 8 / 4194304 < 6176 := by omega
  rcases Nat.lt_or_ge (u / 8 / 4194304) 5168 with h | h
  · clear b2; have b2 := h; clear h
    rcases Nat.lt_or_ge (u / 8 / 4194304) 4640 with h | h
    · clear b2; have b2 := h; clear h
      rcases Nat.lt_or_ge (u / 8 / 4194304) 4400 with h | h
      · clear b2; have b2 := h; clear h
        rcases Nat.lt_or_ge (u / 8 / 4194304) 4256 with h | h
        · clear b2; have b2 := h; clear h
          rcases Nat.lt_or_ge (u / 8 / 4194304) 4208 with h | h
          · clear b2; have b2 := h; clear h
            exact spec8_spec faC0 (by omega) h8 (by omega) (by omega) hl
          · clear b1; have b1 := h; clear h
            exact spec8_spec faC1 (by omega) h8 (by omega) (by omega) hl
        · clear b1; have b1 := h; clear h
          rcases Nat.lt_or_ge (u / 8 / 4194304) 4304 with h | h
          · clear b2; have b2 := h; clear h
            exact spec8_spec faC2 (by omega) h8 (by omega) (by omega) hl
          · clear b1; have b1 := h; clear h
            rcases Nat.lt_or_ge (u / 8 / 4194304) 4352 with h | h
            · clear b2; have b2 := h; clear h
              exact spec8_spec faC3 (by omega) h8 (by omega) (by omega) hl
            · clear b1; have b1 := h; clear h
              exact spec8_spec faC4 (by omega) h8 (by omega) (by omega) hl
      · clear b1; have b1 := h; clear h
        rcases Nat.lt_or_ge (u / 8 / 4194304) 4496 with h | h
        · clear b2; have b2 := h; clear h
          rcases Nat.lt_or_ge (u / 8 / 4194304) 4448 with h | h
          · clear b2; have b2 := h; clear h
            exact spec8_spec faC5 (by omega) h8 (by omega) (by omega) hl
          · clear b1; have b1 := h; clear h
            exact spec8_spec faC6 (by omega) h8 (by omega) (by omega) hl
        · clear b1; have b1 := h; clear h
          rcases Nat.lt_or_ge (u / 8 / 4194304) 4544 with h | h
          · clear b2; have b2 := h; clear h
            exact spec8_spec faC7 (by omega) h8 (by omega) (by omega) hl
          · clear b1; have b1 := h; clear h
            rcases Nat.lt_or_ge (u / 8 / 4194304) 4592 with h | h
            · clear b2; have b2 := h; clear h
              exact spec8_spec faC8 (by omega) h8 (by omega) (by omega) hl
            · clear b1; have b1 := h; clear h
              exact spec8_spec faC9 (by omega) h8 (by omega) (by omega) hl
    · clear b1; have b1 := h; clear h
      rcases Nat.lt_or_ge (u / 8 / 4194304) 4880 with h | h
      · clear b2; have b2 := h; clear h
        rcases Nat.lt_or_ge (u / 8 / 4194304) 4736 with h | h
        · clear b2; have b2 := h; clear h
          rcases Nat.lt_or_ge (u / 8 / 4194304) 4688 with h | h
          · clear b2; have b2 := h; clear h
            exact spec8_spec faC10 (by omega) h8 (by omega) (by omega) hl
          · clear b1; have b1 := h; clear h
            exact spec8_spec faC11 (by omega) h8 (by omega) (by omega) hl
        · clear b1; have b1 := h; clear h
          rcases Nat.lt_or_ge (u / 8 / 4194304) 4784 with h | h
          · clear b2; have b2 := h; clear h
            exact spec8_spec faC12 (by omega) h8 (by omega) (by omega) hl
          · clear b1; have b1 := h; clear h
            rcases Nat.lt_or_ge (u / 8 / 4194304) 4832 with h | h
            · clear b2; have b2 := h; clear h
              exact spec8_spec faC13 (by omega) h8 (by omega) (by omega) hl
            · clear b1; have b1 := h; clear h
              exact spec8_spec faC14 (by omega) h8 (by omega) (by omega) hl
      · clear b1; have b1 := h; clear h
        rcases Nat.lt_or_ge (u / 8 / 4194304) 5024 with h | h
        · clear b2; have b2 := h; clear h
          rcases Nat.lt_or_ge (u / 8 / 4194304) 4928 with h | h
          · clear b2; have b2 := h; clear h
            exact spec8_spec faC15 (by omega) h8 (by omega) (by omega) hl
          · clear b1; have b1 := h; clear h
            rcases Nat.lt_or_ge (u / 8 / 4194304) 4976 with h | h
            · clear b2; have b2 := h; clear h
              exact spec8_spec faC16 (by omega) h8 (by omega) (by omega) hl
            · clear b1; have b1 := h; clear h
              exact spec8_spec faC17 (by omega) h8 (by omega) (by omega) hl
        · clear b1; have b1 := h; clear h
          rcases Nat.lt_or_ge (u / 8 / 4194304) 5072 with h | h
          · clear b2; have b2 := h; clear h
            exact spec8_spec faC18 (by omega) h8 (by omega) (by omega) hl
          · clear b1; have b1 := h; clear h
            rcases Nat.lt_or_ge (u / 8 / 4194304) 5120 with h | h
            · clear b2; have b2 := h; clear h
              exact spec8_spec faC19 (by omega) h8 (by omega) (by omega) hl
            · clear b1; have b1 := h; clear h
              exact spec8_spec faC20 (by omega) h8 (by omega) (by omega) hl
  · clear b1; have b1 := h; clear h
    rcases Nat.lt_or_ge (u / 8 / 4194304) 5648 with h | h
    · clear b2; have b2 := h; clear h
      rcases Nat.lt_or_ge (u / 8 / 4194304) 5408 with h | h
      · clear b2; have b2 := h; clear h
        rcases Nat.lt_or_ge (u / 8 / 4194304) 5264 with h | h
        · clear b2; have b2 := h; clear h
          rcases Nat.lt_or_ge (u / 8 / 4194304) 5216 with h | h
          · clear b2; have b2 := h; clear h
            exact spec8_spec faC21 (by omega) h8 (by omega) (by omega) hl
          · clear b1; have b1 := h; clear h
            exact spec8_spec faC22 (by omega) h8 (by omega) (by omega) hl
        · clear b1; have b1 := h; clear h
          rcases Nat.lt_or_ge (u / 8 / 4194304) 5312 with h | h
          · clear b2; have b2 := h; clear h
            exact spec8_spec faC23 (by omega) h8 (by omega) (by omega) hl
          · clear b1; have b1 := h; clear h
            rcases Nat.lt_or_ge (u / 8 / 4194304) 5360 with h | h
            · clear b2; have b2 := h; clear h
              exact spec8_spec faC24 (by omega) h8 (by omega) (by omega) hl
            · clear b1; have b1 := h; clear h
              exact spec8_spec faC25 (by omega) h8 (by omega) (by omega) hl
      · clear b1; have b1 := h; clear h
        rcases Nat.lt_or_ge (u / 8 / 4194304) 5504 with h | h
        · clear b2; have b2 := h; clear h
          rcases Nat.lt_or_ge (u / 8 / 4194304) 5456 with h | h
          · clear b2; have b2 := h; clear h
            exact spec8_spec faC26 (by omega) h8 (by omega) (by omega) hl
          · clear b1; have b1 := h; clear h
            exact spec8_spec faC27 (by omega) h8 (by omega) (by omega) hl
        · clear b1; have b1 := h; clear h
          rcases Nat.lt_or_ge (u / 8 / 4194304) 5552 with h | h
          · clear b2; have b2 := h; clear h
            exact spec8_spec faC28 (by omega) h8 (by omega) (by omega) hl
          · clear b1; have b1 := h; clear h
            rcases Nat.lt_or_ge (u / 8 / 4194304) 5600 with h | h
            · clear b2; have b2 := h; clear h
              exact spec8_spec faC29 (by omega) h8 (by omega) (by omega) hl
            · clear b1; have b1 := h; clear h
              exact spec8_spec faC30 (by omega) h8 (by omega) (by omega) hl
    · clear b1; have b1 := h; clear h
      rcases Nat.lt_or_ge (u / 8 / 4194304) 5888 with h | h
      · clear b2; have b2 := h; clear h
        rcases Nat.lt_or_ge (u / 8 / 4194304) 5744 with h | h
        · clear b2; have b2 := h; clear h
          rcases Nat.lt_or_ge (u / 8 / 4194304) 5696 with h | h
          · clear b2; have b2 := h; clear h
            exact spec8_spec faC31 (by omega) h8 (by omega) (by omega) hl
          · clear b1; have b1 := h; clear h
            exact spec8_spec faC32 (by omega) h8 (by omega) (by omega) hl
        · clear b1; have b1 := h; clear h
          rcases Nat.lt_or_ge (u / 8 / 4194304) 5792 with h | h
          · clear b2; have b2 := h; clear h
            exact spec8_spec faC33 (by omega) h8 (by omega) (by omega) hl
          · clear b1; have b1 := h; clear h
            rcases Nat.lt_or_ge (u / 8 / 4194304) 5840 with h | h
            · clear b2; have b2 := h; clear h
              exact spec8_spec faC34 (by omega) h8 (by omega) (by omega) hl
            · clear b1; have b1 := h; clear h
              exact spec8_spec faC35 (by omega) h8 (by omega) (by omega) hl
      · clear b1; have b1 := h; clear h
        rcases Nat.lt_or_ge (u / 8 / 4194304) 6032 with h | h
        · clear b2; have b2 := h; clear h
          rcases Nat.lt_or_ge (u / 8 / 4194304) 5936 with h | h
          · clear b2; have b2 := h; clear h
            exact spec8_spec faC36 (by omega) h8 (by omega) (by omega) hl
          · clear b1; have b1 := h; clear h
            rcases Nat.lt_or_ge (u / 8 / 4194304) 5984 with h | h
            · clear b2; have b2 := h; clear h
              exact spec8_spec faC37 (by omega) h8 (by omega) (by omega) hl
            · clear b1; have b1 := h; clear h
              exact spec8_spec faC38 (by omega) h8 (by omega) (by omega) hl
        · clear b1; have b1 := h; clear h
          rcases Nat.lt_or_ge (u / 8 / 4194304) 6080 with h | h
          · clear b2; have b2 := h; clear h
            exact spec8_spec faC39 (by omega) h8 (by omega) (by omega) hl
          · clear b1; have b1 := h; clear h
            rcases Nat.lt_or_ge (u / 8 / 4194304) 6128 with h | h
            · clear b2; have b2 := h; clear h
              exact spec8_spec faC40 (by omega) h8 (by omega) (by omega) hl
            · clear b1; have b1 := h; clear h
              exact spec8_spec faC41 (by omega) h8 (by omega) (by omega) hl
end Go.Proofs.YtpphfeinmmmckaaDoor
