/-
  Plain: blocks of the sieve of special numbers, 0 to 255: reckoned by the kernel (spgen.py prints this text).
-/
import Derived.Test.YtpphfeinmmmckaaDoorSpec
namespace Go.Proofs.YtpphfeinmmmckaaDoor
set_option maxRecDepth 100000
theorem spA0 : specB kW 1048576 0 16 = true := by decide +kernel
theorem spA1 : specB kW 1048576 16 16 = true := by decide +kernel
theorem spA2 : specB kW 1048576 32 16 = true := by decide +kernel
theorem spA3 : specB kW 1048576 48 16 = true := by decide +kernel
theorem spA4 : specB kW 1048576 64 16 = true := by decide +kernel
theorem spA5 : specB kW 1048576 80 16 = true := by decide +kernel
theorem spA6 : specB kW 1048576 96 16 = true := by decide +kernel
theorem spA7 : specB kW 1048576 112 16 = true := by decide +kernel
theorem spA8 : specB kW 1048576 128 16 = true := by decide +kernel
theorem spA9 : specB kW 1048576 144 16 = true := by decide +kernel
theorem spA10 : specB kW 1048576 160 16 = true := by decide +kernel
theorem spA11 : specB kW 1048576 176 16 = true := by decide +kernel
theorem spA12 : specB kW 1048576 192 16 = true := by decide +kernel
theorem spA13 : specB kW 1048576 208 16 = true := by decide +kernel
theorem spA14 : specB kW 1048576 224 16 = true := by decide +kernel
theorem spA15 : specB kW 1048576 240 16 = true := by decide +kernel
theorem spA : ∀ t, t < 16 → specB kW 1048576 (0 + 16 * t) 16 = true
  | 0, _ => spA0
  | 1, _ => spA1
  | 2, _ => spA2
  | 3, _ => spA3
  | 4, _ => spA4
  | 5, _ => spA5
  | 6, _ => spA6
  | 7, _ => spA7
  | 8, _ => spA8
  | 9, _ => spA9
  | 10, _ => spA10
  | 11, _ => spA11
  | 12, _ => spA12
  | 13, _ => spA13
  | 14, _ => spA14
  | 15, _ => spA15
  | t + 16, h => absurd h (by omega)
end Go.Proofs.YtpphfeinmmmckaaDoor
