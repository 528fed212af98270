/-
  Plain: the buckets of the primes that are 3 modulo 8: reckoned by the kernel (sbgen.py prints this text).
-/
import Derived.Test.YtpphfeinmmmckaaDoorSb
namespace Go.Proofs.YtpphfeinmmmckaaDoor
open Nt
set_option maxRecDepth 100000
theorem sbB0 : bucks 1474720 3 0 32 = true := by decide +kernel
theorem sbB1 : bucks 1474720 3 32 32 = true := by decide +kernel
theorem sbB2 : bucks 1474720 3 64 32 = true := by decide +kernel
theorem sbB3 : bucks 1474720 3 96 32 = true := by decide +kernel
theorem sbB4 : bucks 1474720 3 128 32 = true := by decide +kernel
theorem sbB5 : bucks 1474720 3 160 32 = true := by decide +kernel
theorem sbB6 : bucks 1474720 3 192 32 = true := by decide +kernel
theorem sbB7 : bucks 1474720 3 224 32 = true := by decide +kernel
theorem sbB8 : bucks 1474720 3 256 32 = true := by decide +kernel
theorem sbB9 : bucks 1474720 3 288 32 = true := by decide +kernel
theorem sbB10 : bucks 1474720 3 320 32 = true := by decide +kernel
theorem sbB11 : bucks 1474720 3 352 32 = true := by decide +kernel
theorem sbB12 : bucks 1474720 3 384 32 = true := by decide +kernel
theorem sbB13 : bucks 1474720 3 416 32 = true := by decide +kernel
theorem sbB14 : bucks 1474720 3 448 32 = true := by decide +kernel
theorem sbB15 : bucks 1474720 3 480 32 = true := by decide +kernel
theorem sbB16 : bucks 1474720 3 512 32 = true := by decide +kernel
theorem sbB17 : bucks 1474720 3 544 32 = true := by decide +kernel
theorem sbB18 : bucks 1474720 3 576 32 = true := by decide +kernel
theorem sbB19 : bucks 1474720 3 608 32 = true := by decide +kernel
theorem sbB20 : bucks 1474720 3 640 32 = true := by decide +kernel
theorem sbB21 : bucks 1474720 3 672 32 = true := by decide +kernel
theorem sbB22 : bucks 1474720 3 704 32 = true := by decide +kernel
theorem sbB23 : bucks 1474720 3 736 32 = true := by decide +kernel
theorem sbB24 : bucks 1474720 3 768 32 = true := by decide +kernel
theorem sbB25 : bucks 1474720 3 800 32 = true := by decide +kernel
theorem sbB26 : bucks 1474720 3 832 32 = true := by decide +kernel
theorem sbB27 : bucks 1474720 3 864 32 = true := by decide +kernel
theorem sbB28 : bucks 1474720 3 896 32 = true := by decide +kernel
theorem sbB29 : bucks 1474720 3 928 32 = true := by decide +kernel
theorem sbB30 : bucks 1474720 3 960 32 = true := by decide +kernel
theorem sbB31 : bucks 1474720 3 992 32 = true := by decide +kernel
theorem sbB32 : bucks 1474720 3 1024 32 = true := by decide +kernel
theorem sbB33 : bucks 1474720 3 1056 32 = true := by decide +kernel
theorem sbB34 : bucks 1474720 3 1088 32 = true := by decide +kernel
theorem sbB35 : bucks 1474720 3 1120 32 = true := by decide +kernel
theorem sbB36 : bucks 1474720 3 1152 32 = true := by decide +kernel
theorem sbB37 : bucks 1474720 3 1184 32 = true := by decide +kernel
theorem sbB38 : bucks 1474720 3 1216 32 = true := by decide +kernel
theorem sbB39 : bucks 1474720 3 1248 32 = true := by decide +kernel
theorem sbB40 : bucks 1474720 3 1280 32 = true := by decide +kernel
theorem sbB41 : bucks 1474720 3 1312 32 = true := by decide +kernel
theorem sbB42 : bucks 1474720 3 1344 32 = true := by decide +kernel
theorem sbB43 : bucks 1474720 3 1376 32 = true := by decide +kernel
theorem sbB44 : bucks 1474720 3 1408 32 = true := by decide +kernel
theorem sbB45 : bucks 1474720 3 1440 32 = true := by decide +kernel
theorem sbB46 : bucks 1474720 3 1472 32 = true := by decide +kernel
theorem sbB47 : bucks 1474720 3 1504 32 = true := by decide +kernel
theorem sbB48 : bucks 1474720 3 1536 32 = true := by decide +kernel
theorem sbB49 : bucks 1474720 3 1568 32 = true := by decide +kernel
theorem sbB50 : bucks 1474720 3 1600 32 = true := by decide +kernel
theorem sbB51 : bucks 1474720 3 1632 32 = true := by decide +kernel
theorem sbB52 : bucks 1474720 3 1664 32 = true := by decide +kernel
theorem sbB53 : bucks 1474720 3 1696 32 = true := by decide +kernel
theorem sbB54 : bucks 1474720 3 1728 32 = true := by decide +kernel
theorem sbB55 : bucks 1474720 3 1760 32 = true := by decide +kernel
theorem sbB56 : bucks 1474720 3 1792 32 = true := by decide +kernel
theorem sbB57 : bucks 1474720 3 1824 32 = true := by decide +kernel
theorem sbB58 : bucks 1474720 3 1856 32 = true := by decide +kernel
theorem sbB59 : bucks 1474720 3 1888 32 = true := by decide +kernel
theorem sbB60 : bucks 1474720 3 1920 32 = true := by decide +kernel
theorem sbB61 : bucks 1474720 3 1952 32 = true := by decide +kernel
theorem sbB62 : bucks 1474720 3 1984 32 = true := by decide +kernel
theorem sbB63 : bucks 1474720 3 2016 32 = true := by decide +kernel
theorem sbB (m : Nat) (h2 : m < 2048) : ∃ rs, (∀ e ∈ rs, e.1 ∈ ones ∧ e.2 = repD e.1.d (1474720 / e.1.d + 2)) ∧ bucket rs 1474720 3 m = true := by
  have h1 : 0 ≤ m := Nat.zero_le m
  rcases Nat.lt_or_ge m 32 with h | h
  · exact bucks_spec sbB0 (by omega) (by omega)
  clear h1; have h1 := h; clear h
  rcases Nat.lt_or_ge m 64 with h | h
  · exact bucks_spec sbB1 (by omega) (by omega)
  clear h1; have h1 := h; clear h
  rcases Nat.lt_or_ge m 96 with h | h
  · exact bucks_spec sbB2 (by omega) (by omega)
  clear h1; have h1 := h; clear h
  rcases Nat.lt_or_ge m 128 with h | h
  · exact bucks_spec sbB3 (by omega) (by omega)
  clear h1; have h1 := h; clear h
  rcases Nat.lt_or_ge m 160 with h | h
  · exact bucks_spec sbB4 (by omega) (by omega)
  clear h1; have h1 := h; clear h
  rcases Nat.lt_or_ge m 192 with h | h
  · exact bucks_spec sbB5 (by omega) (by omega)
  clear h1; have h1 := h; clear h
  rcases Nat.lt_or_ge m 224 with h | h
  · exact bucks_spec sbB6 (by omega) (by omega)
  clear h1; have h1 := h; clear h
  rcases Nat.lt_or_ge m 256 with h | h
  · exact bucks_spec sbB7 (by omega) (by omega)
  clear h1; have h1 := h; clear h
  rcases Nat.lt_or_ge m 288 with h | h
  · exact bucks_spec sbB8 (by omega) (by omega)
  clear h1; have h1 := h; clear h
  rcases Nat.lt_or_ge m 320 with h | h
  · exact bucks_spec sbB9 (by omega) (by omega)
  clear h1; have h1 := h; clear h
  rcases Nat.lt_or_ge m 352 with h | h
  · exact bucks_spec sbB10 (by omega) (by omega)
  clear h1; have h1 := h; clear h
  rcases Nat.lt_or_ge m 384 with h | h
  · exact bucks_spec sbB11 (by omega) (by omega)
  clear h1; have h1 := h; clear h
  rcases Nat.lt_or_ge m 416 with h | h
  · exact bucks_spec sbB12 (by omega) (by omega)
  clear h1; have h1 := h; clear h
  rcases Nat.lt_or_ge m 448 with h | h
  · exact bucks_spec sbB13 (by omega) (by omega)
  clear h1; have h1 := h; clear h
  rcases Nat.lt_or_ge m 480 with h | h
  · exact bucks_spec sbB14 (by omega) (by omega)
  clear h1; have h1 := h; clear h
  rcases Nat.lt_or_ge m 512 with h | h
  · exact bucks_spec sbB15 (by omega) (by omega)
  clear h1; have h1 := h; clear h
  rcases Nat.lt_or_ge m 544 with h | h
  · exact bucks_spec sbB16 (by omega) (by omega)
  clear h1; have h1 := h; clear h
  rcases Nat.lt_or_ge m 576 with h | h
  · exact bucks_spec sbB17 (by omega) (by omega)
  clear h1; have h1 := h; clear h
  rcases Nat.lt_or_ge m 608 with h | h
  · exact bucks_spec sbB18 (by omega) (by omega)
  clear h1; have h1 := h; clear h
  rcases Nat.lt_or_ge m 640 with h | h
  · exact bucks_spec sbB19 (by omega) (by omega)
  clear h1; have h1 := h; clear h
  rcases Nat.lt_or_ge m 672 with h | h
  · exact bucks_spec sbB20 (by omega) (by omega)
  clear h1; have h1 := h; clear h
  rcases Nat.lt_or_ge m 704 with h | h
  · exact bucks_spec sbB21 (by omega) (by omega)
  clear h1; have h1 := h; clear h
  rcases Nat.lt_or_ge m 736 with h | h
  · exact bucks_spec sbB22 (by omega) (by omega)
  clear h1; have h1 := h; clear h
  rcases Nat.lt_or_ge m 768 with h | h
  · exact bucks_spec sbB23 (by omega) (by omega)
  clear h1; have h1 := h; clear h
  rcases Nat.lt_or_ge m 800 with h | h
  · exact bucks_spec sbB24 (by omega) (by omega)
  clear h1; have h1 := h; clear h
  rcases Nat.lt_or_ge m 832 with h | h
  · exact bucks_spec sbB25 (by omega) (by omega)
  clear h1; have h1 := h; clear h
  rcases Nat.lt_or_ge m 864 with h | h
  · exact bucks_spec sbB26 (by omega) (by omega)
  clear h1; have h1 := h; clear h
  rcases Nat.lt_or_ge m 896 with h | h
  · exact bucks_spec sbB27 (by omega) (by omega)
  clear h1; have h1 := h; clear h
  rcases Nat.lt_or_ge m 928 with h | h
  · exact bucks_spec sbB28 (by omega) (by omega)
  clear h1; have h1 := h; clear h
  rcases Nat.lt_or_ge m 960 with h | h
  · exact bucks_spec sbB29 (by omega) (by omega)
  clear h1; have h1 := h; clear h
  rcases Nat.lt_or_ge m 992 with h | h
  · exact bucks_spec sbB30 (by omega) (by omega)
  clear h1; have h1 := h; clear h
  rcases Nat.lt_or_ge m 1024 with h | h
  · exact bucks_spec sbB31 (by omega) (by omega)
  clear h1; have h1 := h; clear h
  rcases Nat.lt_or_ge m 1056 with h | h
  · exact bucks_spec sbB32 (by omega) (by omega)
  clear h1; have h1 := h; clear h
  rcases Nat.lt_or_ge m 1088 with h | h
  · exact bucks_spec sbB33 (by omega) (by omega)
  clear h1; have h1 := h; clear h
  rcases Nat.lt_or_ge m 1120 with h | h
  · exact bucks_spec sbB34 (by omega) (by omega)
  clear h1; have h1 := h; clear h
  rcases Nat.lt_or_ge m 1152 with h | h
  · exact bucks_spec sbB35 (by omega) (by omega)
  clear h1; have h1 := h; clear h
  rcases Nat.lt_or_ge m 1184 with h | h
  · exact bucks_spec sbB36 (by omega) (by omega)
  clear h1; have h1 := h; clear h
  rcases Nat.lt_or_ge m 1216 with h | h
  · exact bucks_spec sbB37 (by omega) (by omega)
  clear h1; have h1 := h; clear h
  rcases Nat.lt_or_ge m 1248 with h | h
  · exact bucks_spec sbB38 (by omega) (by omega)
  clear h1; have h1 := h; clear h
  rcases Nat.lt_or_ge m 1280 with h | h
  · exact bucks_spec sbB39 (by omega) (by omega)
  clear h1; have h1 := h; clear h
  rcases Nat.lt_or_ge m 1312 with h | h
  · exact bucks_spec sbB40 (by omega) (by omega)
  clear h1; have h1 := h; clear h
  rcases Nat.lt_or_ge m 1344 with h | h
  · exact bucks_spec sbB41 (by omega) (by omega)
  clear h1; have h1 := h; clear h
  rcases Nat.lt_or_ge m 1376 with h | h
  · exact bucks_spec sbB42 (by omega) (by omega)
  clear h1; have h1 := h; clear h
  rcases Nat.lt_or_ge m 1408 with h | h
  · exact bucks_spec sbB43 (by omega) (by omega)
  clear h1; have h1 := h; clear h
  rcases Nat.lt_or_ge m 1440 with h | h
  · exact bucks_spec sbB44 (by omega) (by omega)
  clear h1; have h1 := h; clear h
  rcases Nat.lt_or_ge m 1472 with h | h
  · exact bucks_spec sbB45 (by omega) (by omega)
  clear h1; have h1 := h; clear h
  rcases Nat.lt_or_ge m 1504 with h | h
  · exact bucks_spec sbB46 (by omega) (by omega)
  clear h1; have h1 := h; clear h
  rcases Nat.lt_or_ge m 1536 with h | h
  · exact bucks_spec sbB47 (by omega) (by omega)
  clear h1; have h1 := h; clear h
  rcases Nat.lt_or_ge m 1568 with h | h
  · exact bucks_spec sbB48 (by omega) (by omega)
  clear h1; have h1 := h; clear h
  rcases Nat.lt_or_ge m 1600 with h | h
  · exact bucks_spec sbB49 (by omega) (by omega)
  clear h1; have h1 := h; clear h
  rcases Nat.lt_or_ge m 1632 with h | h
  · exact bucks_spec sbB50 (by omega) (by omega)
  clear h1; have h1 := h; clear h
  rcases Nat.lt_or_ge m 1664 with h | h
  · exact bucks_spec sbB51 (by omega) (by omega)
  clear h1; have h1 := h; clear h
  rcases Nat.lt_or_ge m 1696 with h | h
  · exact bucks_spec sbB52 (by omega) (by omega)
  clear h1; have h1 := h; clear h
  rcases Nat.lt_or_ge m 1728 with h | h
  · exact bucks_spec sbB53 (by omega) (by omega)
  clear h1; have h1 := h; clear h
  rcases Nat.lt_or_ge m 1760 with h | h
  · exact bucks_spec sbB54 (by omega) (by omega)
  clear h1; have h1 := h; clear h
  rcases Nat.lt_or_ge m 1792 with h | h
  · exact bucks_spec sbB55 (by omega) (by omega)
  clear h1; have h1 := h; clear h
  rcases Nat.lt_or_ge m 1824 with h | h
  · exact bucks_spec sbB56 (by omega) (by omega)
  clear h1; have h1 := h; clear h
  rcases Nat.lt_or_ge m 1856 with h | h
  · exact bucks_spec sbB57 (by omega) (by omega)
  clear h1; have h1 := h; clear h
  rcases Nat.lt_or_ge m 1888 with h | h
  · exact bucks_spec sbB58 (by omega) (by omega)
  clear h1; have h1 := h; clear h
  rcases Nat.lt_or_ge m 1920 with h | h
  · exact bucks_spec sbB59 (by omega) (by omega)
  clear h1; have h1 := h; clear h
  rcases Nat.lt_or_ge m 1952 with h | h
  · exact bucks_spec sbB60 (by omega) (by omega)
  clear h1; have h1 := h; clear h
  rcases Nat.lt_or_ge m 1984 with h | h
  · exact bucks_spec sbB61 (by omega) (by omega)
  clear h1; have h1 := h; clear h
  rcases Nat.lt_or_ge m 2016 with h | h
  · exact bucks_spec sbB62 (by omega) (by omega)
  clear h1; have h1 := h; clear h
  exact bucks_spec sbB63 (by omega) (by omega)
end Go.Proofs.YtpphfeinmmmckaaDoor
