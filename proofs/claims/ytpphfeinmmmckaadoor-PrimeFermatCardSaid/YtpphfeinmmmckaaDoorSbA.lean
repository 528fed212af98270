/-
  Plain: the buckets of the primes that are 1 modulo 8: reckoned by the kernel (sbgen.py prints this text).
-/
import Derived.Test.YtpphfeinmmmckaaDoorSb
namespace Go.Proofs.YtpphfeinmmmckaaDoor
open Nt
set_option maxRecDepth 100000
theorem sbA0 : bucks 1474720 1 0 32 = true := by decide +kernel
theorem sbA1 : bucks 1474720 1 32 32 = true := by decide +kernel
theorem sbA2 : bucks 1474720 1 64 32 = true := by decide +kernel
theorem sbA3 : bucks 1474720 1 96 32 = true := by decide +kernel
theorem sbA4 : bucks 1474720 1 128 32 = true := by decide +kernel
theorem sbA5 : bucks 1474720 1 160 32 = true := by decide +kernel
theorem sbA6 : bucks 1474720 1 192 32 = true := by decide +kernel
theorem sbA7 : bucks 1474720 1 224 32 = true := by decide +kernel
theorem sbA8 : bucks 1474720 1 256 32 = true := by decide +kernel
theorem sbA9 : bucks 1474720 1 288 32 = true := by decide +kernel
theorem sbA10 : bucks 1474720 1 320 32 = true := by decide +kernel
theorem sbA11 : bucks 1474720 1 352 32 = true := by decide +kernel
theorem sbA12 : bucks 1474720 1 384 32 = true := by decide +kernel
theorem sbA13 : bucks 1474720 1 416 32 = true := by decide +kernel
theorem sbA14 : bucks 1474720 1 448 32 = true := by decide +kernel
theorem sbA15 : bucks 1474720 1 480 32 = true := by decide +kernel
theorem sbA16 : bucks 1474720 1 512 32 = true := by decide +kernel
theorem sbA17 : bucks 1474720 1 544 32 = true := by decide +kernel
theorem sbA18 : bucks 1474720 1 576 32 = true := by decide +kernel
theorem sbA19 : bucks 1474720 1 608 32 = true := by decide +kernel
theorem sbA20 : bucks 1474720 1 640 32 = true := by decide +kernel
theorem sbA21 : bucks 1474720 1 672 32 = true := by decide +kernel
theorem sbA22 : bucks 1474720 1 704 32 = true := by decide +kernel
theorem sbA23 : bucks 1474720 1 736 32 = true := by decide +kernel
theorem sbA24 : bucks 1474720 1 768 32 = true := by decide +kernel
theorem sbA25 : bucks 1474720 1 800 32 = true := by decide +kernel
theorem sbA26 : bucks 1474720 1 832 32 = true := by decide +kernel
theorem sbA27 : bucks 1474720 1 864 32 = true := by decide +kernel
theorem sbA28 : bucks 1474720 1 896 32 = true := by decide +kernel
theorem sbA29 : bucks 1474720 1 928 32 = true := by decide +kernel
theorem sbA30 : bucks 1474720 1 960 32 = true := by decide +kernel
theorem sbA31 : bucks 1474720 1 992 32 = true := by decide +kernel
theorem sbA32 : bucks 1474720 1 1024 32 = true := by decide +kernel
theorem sbA33 : bucks 1474720 1 1056 32 = true := by decide +kernel
theorem sbA34 : bucks 1474720 1 1088 32 = true := by decide +kernel
theorem sbA35 : bucks 1474720 1 1120 32 = true := by decide +kernel
theorem sbA36 : bucks 1474720 1 1152 32 = true := by decide +kernel
theorem sbA37 : bucks 1474720 1 1184 32 = true := by decide +kernel
theorem sbA38 : bucks 1474720 1 1216 32 = true := by decide +kernel
theorem sbA39 : bucks 1474720 1 1248 32 = true := by decide +kernel
theorem sbA40 : bucks 1474720 1 1280 32 = true := by decide +kernel
theorem sbA41 : bucks 1474720 1 1312 32 = true := by decide +kernel
theorem sbA42 : bucks 1474720 1 1344 32 = true := by decide +kernel
theorem sbA43 : bucks 1474720 1 1376 32 = true := by decide +kernel
theorem sbA44 : bucks 1474720 1 1408 32 = true := by decide +kernel
theorem sbA45 : bucks 1474720 1 1440 32 = true := by decide +kernel
theorem sbA46 : bucks 1474720 1 1472 32 = true := by decide +kernel
theorem sbA47 : bucks 1474720 1 1504 32 = true := by decide +kernel
theorem sbA48 : bucks 1474720 1 1536 32 = true := by decide +kernel
theorem sbA49 : bucks 1474720 1 1568 32 = true := by decide +kernel
theorem sbA50 : bucks 1474720 1 1600 32 = true := by decide +kernel
theorem sbA51 : bucks 1474720 1 1632 32 = true := by decide +kernel
theorem sbA52 : bucks 1474720 1 1664 32 = true := by decide +kernel
theorem sbA53 : bucks 1474720 1 1696 32 = true := by decide +kernel
theorem sbA54 : bucks 1474720 1 1728 32 = true := by decide +kernel
theorem sbA55 : bucks 1474720 1 1760 32 = true := by decide +kernel
theorem sbA56 : bucks 1474720 1 1792 32 = true := by decide +kernel
theorem sbA57 : bucks 1474720 1 1824 32 = true := by decide +kernel
theorem sbA58 : bucks 1474720 1 1856 32 = true := by decide +kernel
theorem sbA59 : bucks 1474720 1 1888 32 = true := by decide +kernel
theorem sbA60 : bucks 1474720 1 1920 32 = true := by decide +kernel
theorem sbA61 : bucks 1474720 1 1952 32 = true := by decide +kernel
theorem sbA62 : bucks 1474720 1 1984 32 = true := by decide +kernel
theorem sbA63 : bucks 1474720 1 2016 32 = true := by decide +kernel
theorem sbA (m : Nat) (h2 : m < 2048) : ∃ rs, (∀ e ∈ rs, e.1 ∈ ones ∧ e.2 = repD e.1.d (1474720 / e.1.d + 2)) ∧ bucket rs 1474720 1 m = true := by
  have h1 : 0 ≤ m := Nat.zero_le m
  rcases Nat.lt_or_ge m 32 with h | h
  · exact bucks_spec sbA0 (by omega) (by omega)
  clear h1; have h1 := h; clear h
  rcases Nat.lt_or_ge m 64 with h | h
  · exact bucks_spec sbA1 (by omega) (by omega)
  clear h1; have h1 := h; clear h
  rcases Nat.lt_or_ge m 96 with h | h
  · exact bucks_spec sbA2 (by omega) (by omega)
  clear h1; have h1 := h; clear h
  rcases Nat.lt_or_ge m 128 with h | h
  · exact bucks_spec sbA3 (by omega) (by omega)
  clear h1; have h1 := h; clear h
  rcases Nat.lt_or_ge m 160 with h | h
  · exact bucks_spec sbA4 (by omega) (by omega)
  clear h1; have h1 := h; clear h
  rcases Nat.lt_or_ge m 192 with h | h
  · exact bucks_spec sbA5 (by omega) (by omega)
  clear h1; have h1 := h; clear h
  rcases Nat.lt_or_ge m 224 with h | h
  · exact bucks_spec sbA6 (by omega) (by omega)
  clear h1; have h1 := h; clear h
  rcases Nat.lt_or_ge m 256 with h | h
  · exact bucks_spec sbA7 (by omega) (by omega)
  clear h1; have h1 := h; clear h
  rcases Nat.lt_or_ge m 288 with h | h
  · exact bucks_spec sbA8 (by omega) (by omega)
  clear h1; have h1 := h; clear h
  rcases Nat.lt_or_ge m 320 with h | h
  · exact bucks_spec sbA9 (by omega) (by omega)
  clear h1; have h1 := h; clear h
  rcases Nat.lt_or_ge m 352 with h | h
  · exact bucks_spec sbA10 (by omega) (by omega)
  clear h1; have h1 := h; clear h
  rcases Nat.lt_or_ge m 384 with h | h
  · exact bucks_spec sbA11 (by omega) (by omega)
  clear h1; have h1 := h; clear h
  rcases Nat.lt_or_ge m 416 with h | h
  · exact bucks_spec sbA12 (by omega) (by omega)
  clear h1; have h1 := h; clear h
  rcases Nat.lt_or_ge m 448 with h | h
  · exact bucks_spec sbA13 (by omega) (by omega)
  clear h1; have h1 := h; clear h
  rcases Nat.lt_or_ge m 480 with h | h
  · exact bucks_spec sbA14 (by omega) (by omega)
  clear h1; have h1 := h; clear h
  rcases Nat.lt_or_ge m 512 with h | h
  · exact bucks_spec sbA15 (by omega) (by omega)
  clear h1; have h1 := h; clear h
  rcases Nat.lt_or_ge m 544 with h | h
  · exact bucks_spec sbA16 (by omega) (by omega)
  clear h1; have h1 := h; clear h
  rcases Nat.lt_or_ge m 576 with h | h
  · exact bucks_spec sbA17 (by omega) (by omega)
  clear h1; have h1 := h; clear h
  rcases Nat.lt_or_ge m 608 with h | h
  · exact bucks_spec sbA18 (by omega) (by omega)
  clear h1; have h1 := h; clear h
  rcases Nat.lt_or_ge m 640 with h | h
  · exact bucks_spec sbA19 (by omega) (by omega)
  clear h1; have h1 := h; clear h
  rcases Nat.lt_or_ge m 672 with h | h
  · exact bucks_spec sbA20 (by omega) (by omega)
  clear h1; have h1 := h; clear h
  rcases Nat.lt_or_ge m 704 with h | h
  · exact bucks_spec sbA21 (by omega) (by omega)
  clear h1; have h1 := h; clear h
  rcases Nat.lt_or_ge m 736 with h | h
  · exact bucks_spec sbA22 (by omega) (by omega)
  clear h1; have h1 := h; clear h
  rcases Nat.lt_or_ge m 768 with h | h
  · exact bucks_spec sbA23 (by omega) (by omega)
  clear h1; have h1 := h; clear h
  rcases Nat.lt_or_ge m 800 with h | h
  · exact bucks_spec sbA24 (by omega) (by omega)
  clear h1; have h1 := h; clear h
  rcases Nat.lt_or_ge m 832 with h | h
  · exact bucks_spec sbA25 (by omega) (by omega)
  clear h1; have h1 := h; clear h
  rcases Nat.lt_or_ge m 864 with h | h
  · exact bucks_spec sbA26 (by omega) (by omega)
  clear h1; have h1 := h; clear h
  rcases Nat.lt_or_ge m 896 with h | h
  · exact bucks_spec sbA27 (by omega) (by omega)
  clear h1; have h1 := h; clear h
  rcases Nat.lt_or_ge m 928 with h | h
  · exact bucks_spec sbA28 (by omega) (by omega)
  clear h1; have h1 := h; clear h
  rcases Nat.lt_or_ge m 960 with h | h
  · exact bucks_spec sbA29 (by omega) (by omega)
  clear h1; have h1 := h; clear h
  rcases Nat.lt_or_ge m 992 with h | h
  · exact bucks_spec sbA30 (by omega) (by omega)
  clear h1; have h1 := h; clear h
  rcases Nat.lt_or_ge m 1024 with h | h
  · exact bucks_spec sbA31 (by omega) (by omega)
  clear h1; have h1 := h; clear h
  rcases Nat.lt_or_ge m 1056 with h | h
  · exact bucks_spec sbA32 (by omega) (by omega)
  clear h1; have h1 := h; clear h
  rcases Nat.lt_or_ge m 1088 with h | h
  · exact bucks_spec sbA33 (by omega) (by omega)
  clear h1; have h1 := h; clear h
  rcases Nat.lt_or_ge m 1120 with h | h
  · exact bucks_spec sbA34 (by omega) (by omega)
  clear h1; have h1 := h; clear h
  rcases Nat.lt_or_ge m 1152 with h | h
  · exact bucks_spec sbA35 (by omega) (by omega)
  clear h1; have h1 := h; clear h
  rcases Nat.lt_or_ge m 1184 with h | h
  · exact bucks_spec sbA36 (by omega) (by omega)
  clear h1; have h1 := h; clear h
  rcases Nat.lt_or_ge m 1216 with h | h
  · exact bucks_spec sbA37 (by omega) (by omega)
  clear h1; have h1 := h; clear h
  rcases Nat.lt_or_ge m 1248 with h | h
  · exact bucks_spec sbA38 (by omega) (by omega)
  clear h1; have h1 := h; clear h
  rcases Nat.lt_or_ge m 1280 with h | h
  · exact bucks_spec sbA39 (by omega) (by omega)
  clear h1; have h1 := h; clear h
  rcases Nat.lt_or_ge m 1312 with h | h
  · exact bucks_spec sbA40 (by omega) (by omega)
  clear h1; have h1 := h; clear h
  rcases Nat.lt_or_ge m 1344 with h | h
  · exact bucks_spec sbA41 (by omega) (by omega)
  clear h1; have h1 := h; clear h
  rcases Nat.lt_or_ge m 1376 with h | h
  · exact bucks_spec sbA42 (by omega) (by omega)
  clear h1; have h1 := h; clear h
  rcases Nat.lt_or_ge m 1408 with h | h
  · exact bucks_spec sbA43 (by omega) (by omega)
  clear h1; have h1 := h; clear h
  rcases Nat.lt_or_ge m 1440 with h | h
  · exact bucks_spec sbA44 (by omega) (by omega)
  clear h1; have h1 := h; clear h
  rcases Nat.lt_or_ge m 1472 with h | h
  · exact bucks_spec sbA45 (by omega) (by omega)
  clear h1; have h1 := h; clear h
  rcases Nat.lt_or_ge m 1504 with h | h
  · exact bucks_spec sbA46 (by omega) (by omega)
  clear h1; have h1 := h; clear h
  rcases Nat.lt_or_ge m 1536 with h | h
  · exact bucks_spec sbA47 (by omega) (by omega)
  clear h1; have h1 := h; clear h
  rcases Nat.lt_or_ge m 1568 with h | h
  · exact bucks_spec sbA48 (by omega) (by omega)
  clear h1; have h1 := h; clear h
  rcases Nat.lt_or_ge m 1600 with h | h
  · exact bucks_spec sbA49 (by omega) (by omega)
  clear h1; have h1 := h; clear h
  rcases Nat.lt_or_ge m 1632 with h | h
  · exact bucks_spec sbA50 (by omega) (by omega)
  clear h1; have h1 := h; clear h
  rcases Nat.lt_or_ge m 1664 with h | h
  · exact bucks_spec sbA51 (by omega) (by omega)
  clear h1; have h1 := h; clear h
  rcases Nat.lt_or_ge m 1696 with h | h
  · exact bucks_spec sbA52 (by omega) (by omega)
  clear h1; have h1 := h; clear h
  rcases Nat.lt_or_ge m 1728 with h | h
  · exact bucks_spec sbA53 (by omega) (by omega)
  clear h1; have h1 := h; clear h
  rcases Nat.lt_or_ge m 1760 with h | h
  · exact bucks_spec sbA54 (by omega) (by omega)
  clear h1; have h1 := h; clear h
  rcases Nat.lt_or_ge m 1792 with h | h
  · exact bucks_spec sbA55 (by omega) (by omega)
  clear h1; have h1 := h; clear h
  rcases Nat.lt_or_ge m 1824 with h | h
  · exact bucks_spec sbA56 (by omega) (by omega)
  clear h1; have h1 := h; clear h
  rcases Nat.lt_or_ge m 1856 with h | h
  · exact bucks_spec sbA57 (by omega) (by omega)
  clear h1; have h1 := h; clear h
  rcases Nat.lt_or_ge m 1888 with h | h
  · exact bucks_spec sbA58 (by omega) (by omega)
  clear h1; have h1 := h; clear h
  rcases Nat.lt_or_ge m 1920 with h | h
  · exact bucks_spec sbA59 (by omega) (by omega)
  clear h1; have h1 := h; clear h
  rcases Nat.lt_or_ge m 1952 with h | h
  · exact bucks_spec sbA60 (by omega) (by omega)
  clear h1; have h1 := h; clear h
  rcases Nat.lt_or_ge m 1984 with h | h
  · exact bucks_spec sbA61 (by omega) (by omega)
  clear h1; have h1 := h; clear h
  rcases Nat.lt_or_ge m 2016 with h | h
  · exact bucks_spec sbA62 (by omega) (by omega)
  clear h1; have h1 := h; clear h
  exact bucks_spec sbA63 (by omega) (by omega)
end Go.Proofs.YtpphfeinmmmckaaDoor
