/-
  Plain: blocks of the sieve of special numbers q below 3087007744 (spgen.py prints this text).
-/
import Derived.Test.YtpphfeinmmmckaaDoorMTri
namespace Go.Proofs.YtpphfeinmmmckaaDoor
set_option maxRecDepth 100000
theorem spC0 : specB (kQ 4294967296) 1048576 0 16 = true := by decide +kernel
theorem spC1 : specB (kQ 4294967296) 1048576 16 16 = true := by decide +kernel
theorem spC2 : specB (kQ 4294967296) 1048576 32 16 = true := by decide +kernel
theorem spC3 : specB (kQ 4294967296) 1048576 48 16 = true := by decide +kernel
theorem spC4 : specB (kQ 4294967296) 1048576 64 16 = true := by decide +kernel
theorem spC5 : specB (kQ 4294967296) 1048576 80 16 = true := by decide +kernel
theorem spC6 : specB (kQ 4294967296) 1048576 96 16 = true := by decide +kernel
theorem spC7 : specB (kQ 4294967296) 1048576 112 16 = true := by decide +kernel
theorem spC8 : specB (kQ 4294967296) 1048576 128 16 = true := by decide +kernel
theorem spC9 : specB (kQ 4294967296) 1048576 144 16 = true := by decide +kernel
theorem spC10 : specB (kQ 4294967296) 1048576 160 16 = true := by decide +kernel
theorem spC11 : specB (kQ 4294967296) 1048576 176 16 = true := by decide +kernel
theorem spC12 : specB (kQ 4294967296) 1048576 192 16 = true := by decide +kernel
theorem spC13 : specB (kQ 4294967296) 1048576 208 16 = true := by decide +kernel
theorem spC14 : specB (kQ 4294967296) 1048576 224 16 = true := by decide +kernel
theorem spC15 : specB (kQ 4294967296) 1048576 240 16 = true := by decide +kernel
theorem spC : ∀ t, t < 16 → specB (kQ 4294967296) 1048576 (0 + 16 * t) 16 = true
  | 0, _ => spC0
  | 1, _ => spC1
  | 2, _ => spC2
  | 3, _ => spC3
  | 4, _ => spC4
  | 5, _ => spC5
  | 6, _ => spC6
  | 7, _ => spC7
  | 8, _ => spC8
  | 9, _ => spC9
  | 10, _ => spC10
  | 11, _ => spC11
  | 12, _ => spC12
  | 13, _ => spC13
  | 14, _ => spC14
  | 15, _ => spC15
  | t + 16, h => absurd h (by omega)
end Go.Proofs.YtpphfeinmmmckaaDoor

namespace Go.Proofs.YtpphfeinmmmckaaDoor
set_option maxRecDepth 100000
theorem spD0 : specB (kQ 4294967296) 1048576 256 16 = true := by decide +kernel
theorem spD1 : specB (kQ 4294967296) 1048576 272 16 = true := by decide +kernel
theorem spD2 : specB (kQ 4294967296) 1048576 288 16 = true := by decide +kernel
theorem spD3 : specB (kQ 4294967296) 1048576 304 16 = true := by decide +kernel
theorem spD4 : specB (kQ 4294967296) 1048576 320 16 = true := by decide +kernel
theorem spD5 : specB (kQ 4294967296) 1048576 336 16 = true := by decide +kernel
theorem spD6 : specB (kQ 4294967296) 1048576 352 16 = true := by decide +kernel
theorem spD : ∀ t, t < 7 → specB (kQ 4294967296) 1048576 (256 + 16 * t) 16 = true
  | 0, _ => spD0
  | 1, _ => spD1
  | 2, _ => spD2
  | 3, _ => spD3
  | 4, _ => spD4
  | 5, _ => spD5
  | 6, _ => spD6
  | t + 7, h => absurd h (by omega)
end Go.Proofs.YtpphfeinmmmckaaDoor
