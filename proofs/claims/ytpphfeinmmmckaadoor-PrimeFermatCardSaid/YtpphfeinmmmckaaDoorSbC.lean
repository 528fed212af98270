/-
  Plain: the buckets of the primes that are 5 modulo 8: reckoned by the kernel (sbgen.py prints this text).
-/
import Derived.Test.YtpphfeinmmmckaaDoorSb
namespace Go.Proofs.YtpphfeinmmmckaaDoor
open Nt
set_option maxRecDepth 100000
theorem sbC0 : bucks 1474720 5 0 32 = true := by decide +kernel
theorem sbC1 : bucks 1474720 5 32 32 = true := by decide +kernel
theorem sbC2 : bucks 1474720 5 64 32 = true := by decide +kernel
theorem sbC3 : bucks 1474720 5 96 32 = true := by decide +kernel
theorem sbC4 : bucks 1474720 5 128 32 = true := by decide +kernel
theorem sbC5 : bucks 1474720 5 160 32 = true := by decide +kernel
theorem sbC6 : bucks 1474720 5 192 32 = true := by decide +kernel
theorem sbC7 : bucks 1474720 5 224 32 = true := by decide +kernel
theorem sbC8 : bucks 1474720 5 256 32 = true := by decide +kernel
theorem sbC9 : bucks 1474720 5 288 32 = true := by decide +kernel
theorem sbC10 : bucks 1474720 5 320 32 = true := by decide +kernel
theorem sbC11 : bucks 1474720 5 352 32 = true := by decide +kernel
theorem sbC12 : bucks 1474720 5 384 32 = true := by decide +kernel
theorem sbC13 : bucks 1474720 5 416 32 = true := by decide +kernel
theorem sbC14 : bucks 1474720 5 448 32 = true := by decide +kernel
theorem sbC15 : bucks 1474720 5 480 32 = true := by decide +kernel
theorem sbC16 : bucks 1474720 5 512 32 = true := by decide +kernel
theorem sbC17 : bucks 1474720 5 544 32 = true := by decide +kernel
theorem sbC18 : bucks 1474720 5 576 32 = true := by decide +kernel
theorem sbC19 : bucks 1474720 5 608 32 = true := by decide +kernel
theorem sbC20 : bucks 1474720 5 640 32 = true := by decide +kernel
theorem sbC21 : bucks 1474720 5 672 32 = true := by decide +kernel
theorem sbC22 : bucks 1474720 5 704 32 = true := by decide +kernel
theorem sbC23 : bucks 1474720 5 736 32 = true := by decide +kernel
theorem sbC24 : bucks 1474720 5 768 32 = true := by decide +kernel
theorem sbC25 : bucks 1474720 5 800 32 = true := by decide +kernel
theorem sbC26 : bucks 1474720 5 832 32 = true := by decide +kernel
theorem sbC27 : bucks 1474720 5 864 32 = true := by decide +kernel
theorem sbC28 : bucks 1474720 5 896 32 = true := by decide +kernel
theorem sbC29 : bucks 1474720 5 928 32 = true := by decide +kernel
theorem sbC30 : bucks 1474720 5 960 32 = true := by decide +kernel
theorem sbC31 : bucks 1474720 5 992 32 = true := by decide +kernel
theorem sbC32 : bucks 1474720 5 1024 32 = true := by decide +kernel
theorem sbC33 : bucks 1474720 5 1056 32 = true := by decide +kernel
theorem sbC34 : bucks 1474720 5 1088 32 = true := by decide +kernel
theorem sbC35 : bucks 1474720 5 1120 32 = true := by decide +kernel
theorem sbC36 : bucks 1474720 5 1152 32 = true := by decide +kernel
theorem sbC37 : bucks 1474720 5 1184 32 = true := by decide +kernel
theorem sbC38 : bucks 1474720 5 1216 32 = true := by decide +kernel
theorem sbC39 : bucks 1474720 5 1248 32 = true := by decide +kernel
theorem sbC40 : bucks 1474720 5 1280 32 = true := by decide +kernel
theorem sbC41 : bucks 1474720 5 1312 32 = true := by decide +kernel
theorem sbC42 : bucks 1474720 5 1344 32 = true := by decide +kernel
theorem sbC43 : bucks 1474720 5 1376 32 = true := by decide +kernel
theorem sbC44 : bucks 1474720 5 1408 32 = true := by decide +kernel
theorem sbC45 : bucks 1474720 5 1440 32 = true := by decide +kernel
theorem sbC46 : bucks 1474720 5 1472 32 = true := by decide +kernel
theorem sbC47 : bucks 1474720 5 1504 32 = true := by decide +kernel
theorem sbC48 : bucks 1474720 5 1536 32 = true := by decide +kernel
theorem sbC49 : bucks 1474720 5 1568 32 = true := by decide +kernel
theorem sbC50 : bucks 1474720 5 1600 32 = true := by decide +kernel
theorem sbC51 : bucks 1474720 5 1632 32 = true := by decide +kernel
theorem sbC52 : bucks 1474720 5 1664 32 = true := by decide +kernel
theorem sbC53 : bucks 1474720 5 1696 32 = true := by decide +kernel
theorem sbC54 : bucks 1474720 5 1728 32 = true := by decide +kernel
theorem sbC55 : bucks 1474720 5 1760 32 = true := by decide +kernel
theorem sbC56 : bucks 1474720 5 1792 32 = true := by decide +kernel
theorem sbC57 : bucks 1474720 5 1824 32 = true := by decide +kernel
theorem sbC58 : bucks 1474720 5 1856 32 = true := by decide +kernel
theorem sbC59 : bucks 1474720 5 1888 32 = true := by decide +kernel
theorem sbC60 : bucks 1474720 5 1920 32 = true := by decide +kernel
theorem sbC61 : bucks 1474720 5 1952 32 = true := by decide +kernel
theorem sbC62 : bucks 1474720 5 1984 32 = true := by decide +kernel
theorem sbC63 : bucks 1474720 5 2016 32 = true := by decide +kernel
theorem sbC (m : Nat) (h2 : m < 2048) : ∃ rs, (∀ e ∈ rs, e.1 ∈ ones ∧ e.2 = repD e.1.d (1474720 / e.1.d + 2)) ∧ bucket rs 1474720 5 m = true := by
  have h1 : 0 ≤ m := Nat.zero_le m
  rcases Nat.lt_or_ge m 32 with h | h
  · exact bucks_spec sbC0 (by omega) (by omega)
  clear h1; have h1 := h; clear h
  rcases Nat.lt_or_ge m 64 with h | h
  · exact bucks_spec sbC1 (by omega) (by omega)
  clear h1; have h1 := h; clear h
  rcases Nat.lt_or_ge m 96 with h | h
  · exact bucks_spec sbC2 (by omega) (by omega)
  clear h1; have h1 := h; clear h
  rcases Nat.lt_or_ge m 128 with h | h
  · exact bucks_spec sbC3 (by omega) (by omega)
  clear h1; have h1 := h; clear h
  rcases Nat.lt_or_ge m 160 with h | h
  · exact bucks_spec sbC4 (by omega) (by omega)
  clear h1; have h1 := h; clear h
  rcases Nat.lt_or_ge m 192 with h | h
  · exact bucks_spec sbC5 (by omega) (by omega)
  clear h1; have h1 := h; clear h
  rcases Nat.lt_or_ge m 224 with h | h
  · exact bucks_spec sbC6 (by omega) (by omega)
  clear h1; have h1 := h; clear h
  rcases Nat.lt_or_ge m 256 with h | h
  · exact bucks_spec sbC7 (by omega) (by omega)
  clear h1; have h1 := h; clear h
  rcases Nat.lt_or_ge m 288 with h | h
  · exact bucks_spec sbC8 (by omega) (by omega)
  clear h1; have h1 := h; clear h
  rcases Nat.lt_or_ge m 320 with h | h
  · exact bucks_spec sbC9 (by omega) (by omega)
  clear h1; have h1 := h; clear h
  rcases Nat.lt_or_ge m 352 with h | h
  · exact bucks_spec sbC10 (by omega) (by omega)
  clear h1; have h1 := h; clear h
  rcases Nat.lt_or_ge m 384 with h | h
  · exact bucks_spec sbC11 (by omega) (by omega)
  clear h1; have h1 := h; clear h
  rcases Nat.lt_or_ge m 416 with h | h
  · exact bucks_spec sbC12 (by omega) (by omega)
  clear h1; have h1 := h; clear h
  rcases Nat.lt_or_ge m 448 with h | h
  · exact bucks_spec sbC13 (by omega) (by omega)
  clear h1; have h1 := h; clear h
  rcases Nat.lt_or_ge m 480 with h | h
  · exact bucks_spec sbC14 (by omega) (by omega)
  clear h1; have h1 := h; clear h
  rcases Nat.lt_or_ge m 512 with h | h
  · exact bucks_spec sbC15 (by omega) (by omega)
  clear h1; have h1 := h; clear h
  rcases Nat.lt_or_ge m 544 with h | h
  · exact bucks_spec sbC16 (by omega) (by omega)
  clear h1; have h1 := h; clear h
  rcases Nat.lt_or_ge m 576 with h | h
  · exact bucks_spec sbC17 (by omega) (by omega)
  clear h1; have h1 := h; clear h
  rcases Nat.lt_or_ge m 608 with h | h
  · exact bucks_spec sbC18 (by omega) (by omega)
  clear h1; have h1 := h; clear h
  rcases Nat.lt_or_ge m 640 with h | h
  · exact bucks_spec sbC19 (by omega) (by omega)
  clear h1; have h1 := h; clear h
  rcases Nat.lt_or_ge m 672 with h | h
  · exact bucks_spec sbC20 (by omega) (by omega)
  clear h1; have h1 := h; clear h
  rcases Nat.lt_or_ge m 704 with h | h
  · exact bucks_spec sbC21 (by omega) (by omega)
  clear h1; have h1 := h; clear h
  rcases Nat.lt_or_ge m 736 with h | h
  · exact bucks_spec sbC22 (by omega) (by omega)
  clear h1; have h1 := h; clear h
  rcases Nat.lt_or_ge m 768 with h | h
  · exact bucks_spec sbC23 (by omega) (by omega)
  clear h1; have h1 := h; clear h
  rcases Nat.lt_or_ge m 800 with h | h
  · exact bucks_spec sbC24 (by omega) (by omega)
  clear h1; have h1 := h; clear h
  rcases Nat.lt_or_ge m 832 with h | h
  · exact bucks_spec sbC25 (by omega) (by omega)
  clear h1; have h1 := h; clear h
  rcases Nat.lt_or_ge m 864 with h | h
  · exact bucks_spec sbC26 (by omega) (by omega)
  clear h1; have h1 := h; clear h
  rcases Nat.lt_or_ge m 896 with h | h
  · exact bucks_spec sbC27 (by omega) (by omega)
  clear h1; have h1 := h; clear h
  rcases Nat.lt_or_ge m 928 with h | h
  · exact bucks_spec sbC28 (by omega) (by omega)
  clear h1; have h1 := h; clear h
  rcases Nat.lt_or_ge m 960 with h | h
  · exact bucks_spec sbC29 (by omega) (by omega)
  clear h1; have h1 := h; clear h
  rcases Nat.lt_or_ge m 992 with h | h
  · exact bucks_spec sbC30 (by omega) (by omega)
  clear h1; have h1 := h; clear h
  rcases Nat.lt_or_ge m 1024 with h | h
  · exact bucks_spec sbC31 (by omega) (by omega)
  clear h1; have h1 := h; clear h
  rcases Nat.lt_or_ge m 1056 with h | h
  · exact bucks_spec sbC32 (by omega) (by omega)
  clear h1; have h1 := h; clear h
  rcases Nat.lt_or_ge m 1088 with h | h
  · exact bucks_spec sbC33 (by omega) (by omega)
  clear h1; have h1 := h; clear h
  rcases Nat.lt_or_ge m 1120 with h | h
  · exact bucks_spec sbC34 (by omega) (by omega)
  clear h1; have h1 := h; clear h
  rcases Nat.lt_or_ge m 1152 with h | h
  · exact bucks_spec sbC35 (by omega) (by omega)
  clear h1; have h1 := h; clear h
  rcases Nat.lt_or_ge m 1184 with h | h
  · exact bucks_spec sbC36 (by omega) (by omega)
  clear h1; have h1 := h; clear h
  rcases Nat.lt_or_ge m 1216 with h | h
  · exact bucks_spec sbC37 (by omega) (by omega)
  clear h1; have h1 := h; clear h
  rcases Nat.lt_or_ge m 1248 with h | h
  · exact bucks_spec sbC38 (by omega) (by omega)
  clear h1; have h1 := h; clear h
  rcases Nat.lt_or_ge m 1280 with h | h
  · exact bucks_spec sbC39 (by omega) (by omega)
  clear h1; have h1 := h; clear h
  rcases Nat.lt_or_ge m 1312 with h | h
  · exact bucks_spec sbC40 (by omega) (by omega)
  clear h1; have h1 := h; clear h
  rcases Nat.lt_or_ge m 1344 with h | h
  · exact bucks_spec sbC41 (by omega) (by omega)
  clear h1; have h1 := h; clear h
  rcases Nat.lt_or_ge m 1376 with h | h
  · exact bucks_spec sbC42 (by omega) (by omega)
  clear h1; have h1 := h; clear h
  rcases Nat.lt_or_ge m 1408 with h | h
  · exact bucks_spec sbC43 (by omega) (by omega)
  clear h1; have h1 := h; clear h
  rcases Nat.lt_or_ge m 1440 with h | h
  · exact bucks_spec sbC44 (by omega) (by omega)
  clear h1; have h1 := h; clear h
  rcases Nat.lt_or_ge m 1472 with h | h
  · exact bucks_spec sbC45 (by omega) (by omega)
  clear h1; have h1 := h; clear h
  rcases Nat.lt_or_ge m 1504 with h | h
  · exact bucks_spec sbC46 (by omega) (by omega)
  clear h1; have h1 := h; clear h
  rcases Nat.lt_or_ge m 1536 with h | h
  · exact bucks_spec sbC47 (by omega) (by omega)
  clear h1; have h1 := h; clear h
  rcases Nat.lt_or_ge m 1568 with h | h
  · exact bucks_spec sbC48 (by omega) (by omega)
  clear h1; have h1 := h; clear h
  rcases Nat.lt_or_ge m 1600 with h | h
  · exact bucks_spec sbC49 (by omega) (by omega)
  clear h1; have h1 := h; clear h
  rcases Nat.lt_or_ge m 1632 with h | h
  · exact bucks_spec sbC50 (by omega) (by omega)
  clear h1; have h1 := h; clear h
  rcases Nat.lt_or_ge m 1664 with h | h
  · exact bucks_spec sbC51 (by omega) (by omega)
  clear h1; have h1 := h; clear h
  rcases Nat.lt_or_ge m 1696 with h | h
  · exact bucks_spec sbC52 (by omega) (by omega)
  clear h1; have h1 := h; clear h
  rcases Nat.lt_or_ge m 1728 with h | h
  · exact bucks_spec sbC53 (by omega) (by omega)
  clear h1; have h1 := h; clear h
  rcases Nat.lt_or_ge m 1760 with h | h
  · exact bucks_spec sbC54 (by omega) (by omega)
  clear h1; have h1 := h; clear h
  rcases Nat.lt_or_ge m 1792 with h | h
  · exact bucks_spec sbC55 (by omega) (by omega)
  clear h1; have h1 := h; clear h
  rcases Nat.lt_or_ge m 1824 with h | h
  · exact bucks_spec sbC56 (by omega) (by omega)
  clear h1; have h1 := h; clear h
  rcases Nat.lt_or_ge m 1856 with h | h
  · exact bucks_spec sbC57 (by omega) (by omega)
  clear h1; have h1 := h; clear h
  rcases Nat.lt_or_ge m 1888 with h | h
  · exact bucks_spec sbC58 (by omega) (by omega)
  clear h1; have h1 := h; clear h
  rcases Nat.lt_or_ge m 1920 with h | h
  · exact bucks_spec sbC59 (by omega) (by omega)
  clear h1; have h1 := h; clear h
  rcases Nat.lt_or_ge m 1952 with h | h
  · exact bucks_spec sbC60 (by omega) (by omega)
  clear h1; have h1 := h; clear h
  rcases Nat.lt_or_ge m 1984 with h | h
  · exact bucks_spec sbC61 (by omega) (by omega)
  clear h1; have h1 := h; clear h
  rcases Nat.lt_or_ge m 2016 with h | h
  · exact bucks_spec sbC62 (by omega) (by omega)
  clear h1; have h1 := h; clear h
  exact bucks_spec sbC63 (by omega) (by omega)
end Go.Proofs.YtpphfeinmmmckaaDoor
