/-
  Plain: blocks of the sieve of special numbers w below 2^32 (spgen.py prints this text).
-/
import Derived.Test.YtpphfeinmmmckaaDoorMTri
namespace Go.Proofs.YtpphfeinmmmckaaDoor
set_option maxRecDepth 100000
theorem spA0 : specB kW 1048576 0 16 = true := by decide +kernel
theorem spA1 : specB kW 1048576 16 16 = true := by decide +kernel
theorem spA2 : specB kW 1048576 32 16 = true := by decide +kernel
theorem spA3 : specB kW 1048576 48 16 = true := by decide +kernel
theorem spA4 : specB kW 1048576 64 16 = true := by decide +kernel
theorem spA5 : specB kW 1048576 80 16 = true := by decide +kernel
theorem spA6 : specB kW 1048576 96 16 = true := by decide +kernel
theorem spA7 : specB kW 1048576 112 16 = true := by decide +kernel
theorem spA8 : specB kW 1048576 128 16 = true := by decide +kernel
theorem spA9 : specB kW 1048576 144 16 = true := by decide +kernel
theorem spA10 : specB kW 1048576 160 16 = true := by decide +kernel
theorem spA11 : specB kW 1048576 176 16 = true := by decide +kernel
theorem spA12 : specB kW 1048576 192 16 = true := by decide +kernel
theorem spA13 : specB kW 1048576 208 16 = true := by decide +kernel
theorem spA14 : specB kW 1048576 224 16 = true := by decide +kernel
theorem spA15 : specB kW 1048576 240 16 = true := by decide +kernel
theorem spA : ∀ t, t < 16 → specB kW 1048576 (0 + 16 * t) 16 = true
  | 0, _ => spA0
  | 1, _ => spA1
  | 2, _ => spA2
  | 3, _ => spA3
  | 4, _ => spA4
  | 5, _ => spA5
  | 6, _ => spA6
  | 7, _ => spA7
  | 8, _ => spA8
  | 9, _ => spA9
  | 10, _ => spA10
  | 11, _ => spA11
  | 12, _ => spA12
  | 13, _ => spA13
  | 14, _ => spA14
  | 15, _ => spA15
  | t + 16, h => absurd h (by omega)
end Go.Proofs.YtpphfeinmmmckaaDoor

namespace Go.Proofs.YtpphfeinmmmckaaDoor
set_option maxRecDepth 100000
theorem spB0 : specB kW 1048576 256 16 = true := by decide +kernel
theorem spB1 : specB kW 1048576 272 16 = true := by decide +kernel
theorem spB2 : specB kW 1048576 288 16 = true := by decide +kernel
theorem spB3 : specB kW 1048576 304 16 = true := by decide +kernel
theorem spB4 : specB kW 1048576 320 16 = true := by decide +kernel
theorem spB5 : specB kW 1048576 336 16 = true := by decide +kernel
theorem spB6 : specB kW 1048576 352 16 = true := by decide +kernel
theorem spB7 : specB kW 1048576 368 16 = true := by decide +kernel
theorem spB8 : specB kW 1048576 384 16 = true := by decide +kernel
theorem spB9 : specB kW 1048576 400 16 = true := by decide +kernel
theorem spB10 : specB kW 1048576 416 16 = true := by decide +kernel
theorem spB11 : specB kW 1048576 432 16 = true := by decide +kernel
theorem spB12 : specB kW 1048576 448 16 = true := by decide +kernel
theorem spB13 : specB kW 1048576 464 16 = true := by decide +kernel
theorem spB14 : specB kW 1048576 480 16 = true := by decide +kernel
theorem spB15 : specB kW 1048576 496 16 = true := by decide +kernel
theorem spB : ∀ t, t < 16 → specB kW 1048576 (256 + 16 * t) 16 = true
  | 0, _ => spB0
  | 1, _ => spB1
  | 2, _ => spB2
  | 3, _ => spB3
  | 4, _ => spB4
  | 5, _ => spB5
  | 6, _ => spB6
  | 7, _ => spB7
  | 8, _ => spB8
  | 9, _ => spB9
  | 10, _ => spB10
  | 11, _ => spB11
  | 12, _ => spB12
  | 13, _ => spB13
  | 14, _ => spB14
  | 15, _ => spB15
  | t + 16, h => absurd h (by omega)
end Go.Proofs.YtpphfeinmmmckaaDoor
