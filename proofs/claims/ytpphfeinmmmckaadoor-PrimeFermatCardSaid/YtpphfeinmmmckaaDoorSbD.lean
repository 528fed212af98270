/-
  Plain: the buckets of the primes that are 7 modulo 8: reckoned by the kernel (sbgen.py prints this text).
-/
import Derived.Test.YtpphfeinmmmckaaDoorSb
namespace Go.Proofs.YtpphfeinmmmckaaDoor
open Nt
set_option maxRecDepth 100000
theorem sbD0 : bucks 1474720 7 0 32 = true := by decide +kernel
theorem sbD1 : bucks 1474720 7 32 32 = true := by decide +kernel
theorem sbD2 : bucks 1474720 7 64 32 = true := by decide +kernel
theorem sbD3 : bucks 1474720 7 96 32 = true := by decide +kernel
theorem sbD4 : bucks 1474720 7 128 32 = true := by decide +kernel
theorem sbD5 : bucks 1474720 7 160 32 = true := by decide +kernel
theorem sbD6 : bucks 1474720 7 192 32 = true := by decide +kernel
theorem sbD7 : bucks 1474720 7 224 32 = true := by decide +kernel
theorem sbD8 : bucks 1474720 7 256 32 = true := by decide +kernel
theorem sbD9 : bucks 1474720 7 288 32 = true := by decide +kernel
theorem sbD10 : bucks 1474720 7 320 32 = true := by decide +kernel
theorem sbD11 : bucks 1474720 7 352 32 = true := by decide +kernel
theorem sbD12 : bucks 1474720 7 384 32 = true := by decide +kernel
theorem sbD13 : bucks 1474720 7 416 32 = true := by decide +kernel
theorem sbD14 : bucks 1474720 7 448 32 = true := by decide +kernel
theorem sbD15 : bucks 1474720 7 480 32 = true := by decide +kernel
theorem sbD16 : bucks 1474720 7 512 32 = true := by decide +kernel
theorem sbD17 : bucks 1474720 7 544 32 = true := by decide +kernel
theorem sbD18 : bucks 1474720 7 576 32 = true := by decide +kernel
theorem sbD19 : bucks 1474720 7 608 32 = true := by decide +kernel
theorem sbD20 : bucks 1474720 7 640 32 = true := by decide +kernel
theorem sbD21 : bucks 1474720 7 672 32 = true := by decide +kernel
theorem sbD22 : bucks 1474720 7 704 32 = true := by decide +kernel
theorem sbD23 : bucks 1474720 7 736 32 = true := by decide +kernel
theorem sbD24 : bucks 1474720 7 768 32 = true := by decide +kernel
theorem sbD25 : bucks 1474720 7 800 32 = true := by decide +kernel
theorem sbD26 : bucks 1474720 7 832 32 = true := by decide +kernel
theorem sbD27 : bucks 1474720 7 864 32 = true := by decide +kernel
theorem sbD28 : bucks 1474720 7 896 32 = true := by decide +kernel
theorem sbD29 : bucks 1474720 7 928 32 = true := by decide +kernel
theorem sbD30 : bucks 1474720 7 960 32 = true := by decide +kernel
theorem sbD31 : bucks 1474720 7 992 32 = true := by decide +kernel
theorem sbD32 : bucks 1474720 7 1024 32 = true := by decide +kernel
theorem sbD33 : bucks 1474720 7 1056 32 = true := by decide +kernel
theorem sbD34 : bucks 1474720 7 1088 32 = true := by decide +kernel
theorem sbD35 : bucks 1474720 7 1120 32 = true := by decide +kernel
theorem sbD36 : bucks 1474720 7 1152 32 = true := by decide +kernel
theorem sbD37 : bucks 1474720 7 1184 32 = true := by decide +kernel
theorem sbD38 : bucks 1474720 7 1216 32 = true := by decide +kernel
theorem sbD39 : bucks 1474720 7 1248 32 = true := by decide +kernel
theorem sbD40 : bucks 1474720 7 1280 32 = true := by decide +kernel
theorem sbD41 : bucks 1474720 7 1312 32 = true := by decide +kernel
theorem sbD42 : bucks 1474720 7 1344 32 = true := by decide +kernel
theorem sbD43 : bucks 1474720 7 1376 32 = true := by decide +kernel
theorem sbD44 : bucks 1474720 7 1408 32 = true := by decide +kernel
theorem sbD45 : bucks 1474720 7 1440 32 = true := by decide +kernel
theorem sbD46 : bucks 1474720 7 1472 32 = true := by decide +kernel
theorem sbD47 : bucks 1474720 7 1504 32 = true := by decide +kernel
theorem sbD48 : bucks 1474720 7 1536 32 = true := by decide +kernel
theorem sbD49 : bucks 1474720 7 1568 32 = true := by decide +kernel
theorem sbD50 : bucks 1474720 7 1600 32 = true := by decide +kernel
theorem sbD51 : bucks 1474720 7 1632 32 = true := by decide +kernel
theorem sbD52 : bucks 1474720 7 1664 32 = true := by decide +kernel
theorem sbD53 : bucks 1474720 7 1696 32 = true := by decide +kernel
theorem sbD54 : bucks 1474720 7 1728 32 = true := by decide +kernel
theorem sbD55 : bucks 1474720 7 1760 32 = true := by decide +kernel
theorem sbD56 : bucks 1474720 7 1792 32 = true := by decide +kernel
theorem sbD57 : bucks 1474720 7 1824 32 = true := by decide +kernel
theorem sbD58 : bucks 1474720 7 1856 32 = true := by decide +kernel
theorem sbD59 : bucks 1474720 7 1888 32 = true := by decide +kernel
theorem sbD60 : bucks 1474720 7 1920 32 = true := by decide +kernel
theorem sbD61 : bucks 1474720 7 1952 32 = true := by decide +kernel
theorem sbD62 : bucks 1474720 7 1984 32 = true := by decide +kernel
theorem sbD63 : bucks 1474720 7 2016 32 = true := by decide +kernel
theorem sbD (m : Nat) (h2 : m < 2048) : ∃ rs, (∀ e ∈ rs, e.1 ∈ ones ∧ e.2 = repD e.1.d (1474720 / e.1.d + 2)) ∧ bucket rs 1474720 7 m = true := by
  have h1 : 0 ≤ m := Nat.zero_le m
  rcases Nat.lt_or_ge m 32 with h | h
  · exact bucks_spec sbD0 (by omega) (by omega)
  clear h1; have h1 := h; clear h
  rcases Nat.lt_or_ge m 64 with h | h
  · exact bucks_spec sbD1 (by omega) (by omega)
  clear h1; have h1 := h; clear h
  rcases Nat.lt_or_ge m 96 with h | h
  · exact bucks_spec sbD2 (by omega) (by omega)
  clear h1; have h1 := h; clear h
  rcases Nat.lt_or_ge m 128 with h | h
  · exact bucks_spec sbD3 (by omega) (by omega)
  clear h1; have h1 := h; clear h
  rcases Nat.lt_or_ge m 160 with h | h
  · exact bucks_spec sbD4 (by omega) (by omega)
  clear h1; have h1 := h; clear h
  rcases Nat.lt_or_ge m 192 with h | h
  · exact bucks_spec sbD5 (by omega) (by omega)
  clear h1; have h1 := h; clear h
  rcases Nat.lt_or_ge m 224 with h | h
  · exact bucks_spec sbD6 (by omega) (by omega)
  clear h1; have h1 := h; clear h
  rcases Nat.lt_or_ge m 256 with h | h
  · exact bucks_spec sbD7 (by omega) (by omega)
  clear h1; have h1 := h; clear h
  rcases Nat.lt_or_ge m 288 with h | h
  · exact bucks_spec sbD8 (by omega) (by omega)
  clear h1; have h1 := h; clear h
  rcases Nat.lt_or_ge m 320 with h | h
  · exact bucks_spec sbD9 (by omega) (by omega)
  clear h1; have h1 := h; clear h
  rcases Nat.lt_or_ge m 352 with h | h
  · exact bucks_spec sbD10 (by omega) (by omega)
  clear h1; have h1 := h; clear h
  rcases Nat.lt_or_ge m 384 with h | h
  · exact bucks_spec sbD11 (by omega) (by omega)
  clear h1; have h1 := h; clear h
  rcases Nat.lt_or_ge m 416 with h | h
  · exact bucks_spec sbD12 (by omega) (by omega)
  clear h1; have h1 := h; clear h
  rcases Nat.lt_or_ge m 448 with h | h
  · exact bucks_spec sbD13 (by omega) (by omega)
  clear h1; have h1 := h; clear h
  rcases Nat.lt_or_ge m 480 with h | h
  · exact bucks_spec sbD14 (by omega) (by omega)
  clear h1; have h1 := h; clear h
  rcases Nat.lt_or_ge m 512 with h | h
  · exact bucks_spec sbD15 (by omega) (by omega)
  clear h1; have h1 := h; clear h
  rcases Nat.lt_or_ge m 544 with h | h
  · exact bucks_spec sbD16 (by omega) (by omega)
  clear h1; have h1 := h; clear h
  rcases Nat.lt_or_ge m 576 with h | h
  · exact bucks_spec sbD17 (by omega) (by omega)
  clear h1; have h1 := h; clear h
  rcases Nat.lt_or_ge m 608 with h | h
  · exact bucks_spec sbD18 (by omega) (by omega)
  clear h1; have h1 := h; clear h
  rcases Nat.lt_or_ge m 640 with h | h
  · exact bucks_spec sbD19 (by omega) (by omega)
  clear h1; have h1 := h; clear h
  rcases Nat.lt_or_ge m 672 with h | h
  · exact bucks_spec sbD20 (by omega) (by omega)
  clear h1; have h1 := h; clear h
  rcases Nat.lt_or_ge m 704 with h | h
  · exact bucks_spec sbD21 (by omega) (by omega)
  clear h1; have h1 := h; clear h
  rcases Nat.lt_or_ge m 736 with h | h
  · exact bucks_spec sbD22 (by omega) (by omega)
  clear h1; have h1 := h; clear h
  rcases Nat.lt_or_ge m 768 with h | h
  · exact bucks_spec sbD23 (by omega) (by omega)
  clear h1; have h1 := h; clear h
  rcases Nat.lt_or_ge m 800 with h | h
  · exact bucks_spec sbD24 (by omega) (by omega)
  clear h1; have h1 := h; clear h
  rcases Nat.lt_or_ge m 832 with h | h
  · exact bucks_spec sbD25 (by omega) (by omega)
  clear h1; have h1 := h; clear h
  rcases Nat.lt_or_ge m 864 with h | h
  · exact bucks_spec sbD26 (by omega) (by omega)
  clear h1; have h1 := h; clear h
  rcases Nat.lt_or_ge m 896 with h | h
  · exact bucks_spec sbD27 (by omega) (by omega)
  clear h1; have h1 := h; clear h
  rcases Nat.lt_or_ge m 928 with h | h
  · exact bucks_spec sbD28 (by omega) (by omega)
  clear h1; have h1 := h; clear h
  rcases Nat.lt_or_ge m 960 with h | h
  · exact bucks_spec sbD29 (by omega) (by omega)
  clear h1; have h1 := h; clear h
  rcases Nat.lt_or_ge m 992 with h | h
  · exact bucks_spec sbD30 (by omega) (by omega)
  clear h1; have h1 := h; clear h
  rcases Nat.lt_or_ge m 1024 with h | h
  · exact bucks_spec sbD31 (by omega) (by omega)
  clear h1; have h1 := h; clear h
  rcases Nat.lt_or_ge m 1056 with h | h
  · exact bucks_spec sbD32 (by omega) (by omega)
  clear h1; have h1 := h; clear h
  rcases Nat.lt_or_ge m 1088 with h | h
  · exact bucks_spec sbD33 (by omega) (by omega)
  clear h1; have h1 := h; clear h
  rcases Nat.lt_or_ge m 1120 with h | h
  · exact bucks_spec sbD34 (by omega) (by omega)
  clear h1; have h1 := h; clear h
  rcases Nat.lt_or_ge m 1152 with h | h
  · exact bucks_spec sbD35 (by omega) (by omega)
  clear h1; have h1 := h; clear h
  rcases Nat.lt_or_ge m 1184 with h | h
  · exact bucks_spec sbD36 (by omega) (by omega)
  clear h1; have h1 := h; clear h
  rcases Nat.lt_or_ge m 1216 with h | h
  · exact bucks_spec sbD37 (by omega) (by omega)
  clear h1; have h1 := h; clear h
  rcases Nat.lt_or_ge m 1248 with h | h
  · exact bucks_spec sbD38 (by omega) (by omega)
  clear h1; have h1 := h; clear h
  rcases Nat.lt_or_ge m 1280 with h | h
  · exact bucks_spec sbD39 (by omega) (by omega)
  clear h1; have h1 := h; clear h
  rcases Nat.lt_or_ge m 1312 with h | h
  · exact bucks_spec sbD40 (by omega) (by omega)
  clear h1; have h1 := h; clear h
  rcases Nat.lt_or_ge m 1344 with h | h
  · exact bucks_spec sbD41 (by omega) (by omega)
  clear h1; have h1 := h; clear h
  rcases Nat.lt_or_ge m 1376 with h | h
  · exact bucks_spec sbD42 (by omega) (by omega)
  clear h1; have h1 := h; clear h
  rcases Nat.lt_or_ge m 1408 with h | h
  · exact bucks_spec sbD43 (by omega) (by omega)
  clear h1; have h1 := h; clear h
  rcases Nat.lt_or_ge m 1440 with h | h
  · exact bucks_spec sbD44 (by omega) (by omega)
  clear h1; have h1 := h; clear h
  rcases Nat.lt_or_ge m 1472 with h | h
  · exact bucks_spec sbD45 (by omega) (by omega)
  clear h1; have h1 := h; clear h
  rcases Nat.lt_or_ge m 1504 with h | h
  · exact bucks_spec sbD46 (by omega) (by omega)
  clear h1; have h1 := h; clear h
  rcases Nat.lt_or_ge m 1536 with h | h
  · exact bucks_spec sbD47 (by omega) (by omega)
  clear h1; have h1 := h; clear h
  rcases Nat.lt_or_ge m 1568 with h | h
  · exact bucks_spec sbD48 (by omega) (by omega)
  clear h1; have h1 := h; clear h
  rcases Nat.lt_or_ge m 1600 with h | h
  · exact bucks_spec sbD49 (by omega) (by omega)
  clear h1; have h1 := h; clear h
  rcases Nat.lt_or_ge m 1632 with h | h
  · exact bucks_spec sbD50 (by omega) (by omega)
  clear h1; have h1 := h; clear h
  rcases Nat.lt_or_ge m 1664 with h | h
  · exact bucks_spec sbD51 (by omega) (by omega)
  clear h1; have h1 := h; clear h
  rcases Nat.lt_or_ge m 1696 with h | h
  · exact bucks_spec sbD52 (by omega) (by omega)
  clear h1; have h1 := h; clear h
  rcases Nat.lt_or_ge m 1728 with h | h
  · exact bucks_spec sbD53 (by omega) (by omega)
  clear h1; have h1 := h; clear h
  rcases Nat.lt_or_ge m 1760 with h | h
  · exact bucks_spec sbD54 (by omega) (by omega)
  clear h1; have h1 := h; clear h
  rcases Nat.lt_or_ge m 1792 with h | h
  · exact bucks_spec sbD55 (by omega) (by omega)
  clear h1; have h1 := h; clear h
  rcases Nat.lt_or_ge m 1824 with h | h
  · exact bucks_spec sbD56 (by omega) (by omega)
  clear h1; have h1 := h; clear h
  rcases Nat.lt_or_ge m 1856 with h | h
  · exact bucks_spec sbD57 (by omega) (by omega)
  clear h1; have h1 := h; clear h
  rcases Nat.lt_or_ge m 1888 with h | h
  · exact bucks_spec sbD58 (by omega) (by omega)
  clear h1; have h1 := h; clear h
  rcases Nat.lt_or_ge m 1920 with h | h
  · exact bucks_spec sbD59 (by omega) (by omega)
  clear h1; have h1 := h; clear h
  rcases Nat.lt_or_ge m 1952 with h | h
  · exact bucks_spec sbD60 (by omega) (by omega)
  clear h1; have h1 := h; clear h
  rcases Nat.lt_or_ge m 1984 with h | h
  · exact bucks_spec sbD61 (by omega) (by omega)
  clear h1; have h1 := h; clear h
  rcases Nat.lt_or_ge m 2016 with h | h
  · exact bucks_spec sbD62 (by omega) (by omega)
  clear h1; have h1 := h; clear h
  exact bucks_spec sbD63 (by omega) (by omega)
end Go.Proofs.YtpphfeinmmmckaaDoor
