/-
  Plain: three primes, the least from 3209 to 14220, the second of the same characters: reckoned by the kernel (sagen.py prints this text).
-/
import Derived.Test.YtpphfeinmmmckaaDoorSa
namespace Go.Proofs.YtpphfeinmmmckaaDoor
open Nt
set_option maxRecDepth 100000
theorem saB0 : sB 6534170 3209 57 = true := by decide +kernel
theorem saB1 : sB 6423954 3323 63 = true := by decide +kernel
theorem saB2 : sB 6308446 3449 46 = true := by decide +kernel
theorem saB3 : sB 6227964 3541 59 = true := by decide +kernel
theorem saB4 : sB 6129142 3659 60 = true := by decide +kernel
theorem saB5 : sB 6033355 3779 66 = true := by decide +kernel
theorem saB6 : sB 5933041 3911 55 = true := by decide +kernel
theorem saB7 : sB 5853190 4021 68 = true := by decide +kernel
theorem saB8 : sB 5758814 4157 63 = true := by decide +kernel
theorem saB9 : sB 5675358 4283 82 = true := by decide +kernel
theorem saB10 : sB 5572015 4447 68 = true := by decide +kernel
theorem saB11 : sB 5490496 4583 70 = true := by decide +kernel
theorem saB12 : sB 5410232 4723 83 = true := by decide +kernel
theorem saB13 : sB 5319502 4889 60 = true := by decide +kernel
theorem saB14 : sB 5256704 5009 79 = true := by decide +kernel
theorem saB15 : sB 5177335 5167 83 = true := by decide +kernel
theorem saB16 : sB 5097725 5333 73 = true := by decide +kernel
theorem saB17 : sB 5030678 5479 84 = true := by decide +kernel
theorem saB18 : sB 4956729 5647 72 = true := by decide +kernel
theorem saB19 : sB 4895888 5791 68 = true := by decide +kernel
theorem saB20 : sB 4840449 5927 97 = true := by decide +kernel
theorem saB21 : sB 4764548 6121 78 = true := by decide +kernel
theorem saB22 : sB 4706053 6277 75 = true := by decide +kernel
theorem saB23 : sB 4651804 6427 105 = true := by decide +kernel
theorem saB24 : sB 4578930 6637 83 = true := by decide +kernel
theorem saB25 : sB 4523700 6803 84 = true := by decide +kernel
theorem saB26 : sB 4469803 6971 94 = true := by decide +kernel
theorem saB27 : sB 4411727 7159 96 = true := by decide +kernel
theorem saB28 : sB 4354704 7351 99 = true := by decide +kernel
theorem saB29 : sB 4298166 7549 84 = true := by decide +kernel
theorem saB30 : sB 4251894 7717 101 = true := by decide +kernel
theorem saB31 : sB 4198195 7919 102 = true := by decide +kernel
theorem saB32 : sB 4145990 8123 97 = true := by decide +kernel
theorem saB33 : sB 4098116 8317 113 = true := by decide +kernel
theorem saB34 : sB 4044395 8543 94 = true := by decide +kernel
theorem saB35 : sB 4001288 8731 101 = true := by decide +kernel
theorem saB36 : sB 3956481 8933 109 = true := by decide +kernel
theorem saB37 : sB 3909781 9151 96 = true := by decide +kernel
theorem saB38 : sB 3869999 9343 95 = true := by decide +kernel
theorem saB39 : sB 3831808 9533 117 = true := by decide +kernel
theorem saB40 : sB 3786300 9767 100 = true := by decide +kernel
theorem saB41 : sB 3748667 9967 113 = true := by decide +kernel
theorem saB42 : sB 3707470 10193 118 = true := by decide +kernel
theorem saB43 : sB 3665874 10429 117 = true := by decide +kernel
theorem saB44 : sB 3625989 10663 120 = true := by decide +kernel
theorem saB45 : sB 3586410 10903 128 = true := by decide +kernel
theorem saB46 : sB 3545594 11159 120 = true := by decide +kernel
theorem saB47 : sB 3508574 11399 141 = true := by decide +kernel
theorem saB48 : sB 3466529 11681 121 = true := by decide +kernel
theorem saB49 : sB 3431633 11923 113 = true := by decide +kernel
theorem saB50 : sB 3399982 12149 126 = true := by decide +kernel
theorem saB51 : sB 3365706 12401 106 = true := by decide +kernel
theorem saB52 : sB 3337663 12613 140 = true := by decide +kernel
theorem saB53 : sB 3301681 12893 114 = true := by decide +kernel
theorem saB54 : sB 3273230 13121 138 = true := by decide +kernel
theorem saB55 : sB 3239757 13397 142 = true := by decide +kernel
theorem saB56 : sB 3206367 13681 113 = true := by decide +kernel
theorem saB57 : sB 3180525 13907 157 = true := by decide +kernel
theorem saB (p : Nat) (ho : p % 2 = 1) (h1 : 3209 ≤ p) (h2 : p < 14221) : ∃ rs W, (∀ e ∈ rs, e.1 ∈ ones ∧ e.2 = repD e.1.d (W / e.1.d + 2)) ∧ sP rs W p = true := by
  rcases Nat.lt_or_ge p 3323 with h | h
  · exact sB_spec saB0 (by omega) (by omega) (by omega)
  clear h1; have h1 := h; clear h
  rcases Nat.lt_or_ge p 3449 with h | h
  · exact sB_spec saB1 (by omega) (by omega) (by omega)
  clear h1; have h1 := h; clear h
  rcases Nat.lt_or_ge p 3541 with h | h
  · exact sB_spec saB2 (by omega) (by omega) (by omega)
  clear h1; have h1 := h; clear h
  rcases Nat.lt_or_ge p 3659 with h | h
  · exact sB_spec saB3 (by omega) (by omega) (by omega)
  clear h1; have h1 := h; clear h
  rcases Nat.lt_or_ge p 3779 with h | h
  · exact sB_spec saB4 (by omega) (by omega) (by omega)
  clear h1; have h1 := h; clear h
  rcases Nat.lt_or_ge p 3911 with h | h
  · exact sB_spec saB5 (by omega) (by omega) (by omega)
  clear h1; have h1 := h; clear h
  rcases Nat.lt_or_ge p 4021 with h | h
  · exact sB_spec saB6 (by omega) (by omega) (by omega)
  clear h1; have h1 := h; clear h
  rcases Nat.lt_or_ge p 4157 with h | h
  · exact sB_spec saB7 (by omega) (by omega) (by omega)
  clear h1; have h1 := h; clear h
  rcases Nat.lt_or_ge p 4283 with h | h
  · exact sB_spec saB8 (by omega) (by omega) (by omega)
  clear h1; have h1 := h; clear h
  rcases Nat.lt_or_ge p 4447 with h | h
  · exact sB_spec saB9 (by omega) (by omega) (by omega)
  clear h1; have h1 := h; clear h
  rcases Nat.lt_or_ge p 4583 with h | h
  · exact sB_spec saB10 (by omega) (by omega) (by omega)
  clear h1; have h1 := h; clear h
  rcases Nat.lt_or_ge p 4723 with h | h
  · exact sB_spec saB11 (by omega) (by omega) (by omega)
  clear h1; have h1 := h; clear h
  rcases Nat.lt_or_ge p 4889 with h | h
  · exact sB_spec saB12 (by omega) (by omega) (by omega)
  clear h1; have h1 := h; clear h
  rcases Nat.lt_or_ge p 5009 with h | h
  · exact sB_spec saB13 (by omega) (by omega) (by omega)
  clear h1; have h1 := h; clear h
  rcases Nat.lt_or_ge p 5167 with h | h
  · exact sB_spec saB14 (by omega) (by omega) (by omega)
  clear h1; have h1 := h; clear h
  rcases Nat.lt_or_ge p 5333 with h | h
  · exact sB_spec saB15 (by omega) (by omega) (by omega)
  clear h1; have h1 := h; clear h
  rcases Nat.lt_or_ge p 5479 with h | h
  · exact sB_spec saB16 (by omega) (by omega) (by omega)
  clear h1; have h1 := h; clear h
  rcases Nat.lt_or_ge p 5647 with h | h
  · exact sB_spec saB17 (by omega) (by omega) (by omega)
  clear h1; have h1 := h; clear h
  rcases Nat.lt_or_ge p 5791 with h | h
  · exact sB_spec saB18 (by omega) (by omega) (by omega)
  clear h1; have h1 := h; clear h
  rcases Nat.lt_or_ge p 5927 with h | h
  · exact sB_spec saB19 (by omega) (by omega) (by omega)
  clear h1; have h1 := h; clear h
  rcases Nat.lt_or_ge p 6121 with h | h
  · exact sB_spec saB20 (by omega) (by omega) (by omega)
  clear h1; have h1 := h; clear h
  rcases Nat.lt_or_ge p 6277 with h | h
  · exact sB_spec saB21 (by omega) (by omega) (by omega)
  clear h1; have h1 := h; clear h
  rcases Nat.lt_or_ge p 6427 with h | h
  · exact sB_spec saB22 (by omega) (by omega) (by omega)
  clear h1; have h1 := h; clear h
  rcases Nat.lt_or_ge p 6637 with h | h
  · exact sB_spec saB23 (by omega) (by omega) (by omega)
  clear h1; have h1 := h; clear h
  rcases Nat.lt_or_ge p 6803 with h | h
  · exact sB_spec saB24 (by omega) (by omega) (by omega)
  clear h1; have h1 := h; clear h
  rcases Nat.lt_or_ge p 6971 with h | h
  · exact sB_spec saB25 (by omega) (by omega) (by omega)
  clear h1; have h1 := h; clear h
  rcases Nat.lt_or_ge p 7159 with h | h
  · exact sB_spec saB26 (by omega) (by omega) (by omega)
  clear h1; have h1 := h; clear h
  rcases Nat.lt_or_ge p 7351 with h | h
  · exact sB_spec saB27 (by omega) (by omega) (by omega)
  clear h1; have h1 := h; clear h
  rcases Nat.lt_or_ge p 7549 with h | h
  · exact sB_spec saB28 (by omega) (by omega) (by omega)
  clear h1; have h1 := h; clear h
  rcases Nat.lt_or_ge p 7717 with h | h
  · exact sB_spec saB29 (by omega) (by omega) (by omega)
  clear h1; have h1 := h; clear h
  rcases Nat.lt_or_ge p 7919 with h | h
  · exact sB_spec saB30 (by omega) (by omega) (by omega)
  clear h1; have h1 := h; clear h
  rcases Nat.lt_or_ge p 8123 with h | h
  · exact sB_spec saB31 (by omega) (by omega) (by omega)
  clear h1; have h1 := h; clear h
  rcases Nat.lt_or_ge p 8317 with h | h
  · exact sB_spec saB32 (by omega) (by omega) (by omega)
  clear h1; have h1 := h; clear h
  rcases Nat.lt_or_ge p 8543 with h | h
  · exact sB_spec saB33 (by omega) (by omega) (by omega)
  clear h1; have h1 := h; clear h
  rcases Nat.lt_or_ge p 8731 with h | h
  · exact sB_spec saB34 (by omega) (by omega) (by omega)
  clear h1; have h1 := h; clear h
  rcases Nat.lt_or_ge p 8933 with h | h
  · exact sB_spec saB35 (by omega) (by omega) (by omega)
  clear h1; have h1 := h; clear h
  rcases Nat.lt_or_ge p 9151 with h | h
  · exact sB_spec saB36 (by omega) (by omega) (by omega)
  clear h1; have h1 := h; clear h
  rcases Nat.lt_or_ge p 9343 with h | h
  · exact sB_spec saB37 (by omega) (by omega) (by omega)
  clear h1; have h1 := h; clear h
  rcases Nat.lt_or_ge p 9533 with h | h
  · exact sB_spec saB38 (by omega) (by omega) (by omega)
  clear h1; have h1 := h; clear h
  rcases Nat.lt_or_ge p 9767 with h | h
  · exact sB_spec saB39 (by omega) (by omega) (by omega)
  clear h1; have h1 := h; clear h
  rcases Nat.lt_or_ge p 9967 with h | h
  · exact sB_spec saB40 (by omega) (by omega) (by omega)
  clear h1; have h1 := h; clear h
  rcases Nat.lt_or_ge p 10193 with h | h
  · exact sB_spec saB41 (by omega) (by omega) (by omega)
  clear h1; have h1 := h; clear h
  rcases Nat.lt_or_ge p 10429 with h | h
  · exact sB_spec saB42 (by omega) (by omega) (by omega)
  clear h1; have h1 := h; clear h
  rcases Nat.lt_or_ge p 10663 with h | h
  · exact sB_spec saB43 (by omega) (by omega) (by omega)
  clear h1; have h1 := h; clear h
  rcases Nat.lt_or_ge p 10903 with h | h
  · exact sB_spec saB44 (by omega) (by omega) (by omega)
  clear h1; have h1 := h; clear h
  rcases Nat.lt_or_ge p 11159 with h | h
  · exact sB_spec saB45 (by omega) (by omega) (by omega)
  clear h1; have h1 := h; clear h
  rcases Nat.lt_or_ge p 11399 with h | h
  · exact sB_spec saB46 (by omega) (by omega) (by omega)
  clear h1; have h1 := h; clear h
  rcases Nat.lt_or_ge p 11681 with h | h
  · exact sB_spec saB47 (by omega) (by omega) (by omega)
  clear h1; have h1 := h; clear h
  rcases Nat.lt_or_ge p 11923 with h | h
  · exact sB_spec saB48 (by omega) (by omega) (by omega)
  clear h1; have h1 := h; clear h
  rcases Nat.lt_or_ge p 12149 with h | h
  · exact sB_spec saB49 (by omega) (by omega) (by omega)
  clear h1; have h1 := h; clear h
  rcases Nat.lt_or_ge p 12401 with h | h
  · exact sB_spec saB50 (by omega) (by omega) (by omega)
  clear h1; have h1 := h; clear h
  rcases Nat.lt_or_ge p 12613 with h | h
  · exact sB_spec saB51 (by omega) (by omega) (by omega)
  clear h1; have h1 := h; clear h
  rcases Nat.lt_or_ge p 12893 with h | h
  · exact sB_spec saB52 (by omega) (by omega) (by omega)
  clear h1; have h1 := h; clear h
  rcases Nat.lt_or_ge p 13121 with h | h
  · exact sB_spec saB53 (by omega) (by omega) (by omega)
  clear h1; have h1 := h; clear h
  rcases Nat.lt_or_ge p 13397 with h | h
  · exact sB_spec saB54 (by omega) (by omega) (by omega)
  clear h1; have h1 := h; clear h
  rcases Nat.lt_or_ge p 13681 with h | h
  · exact sB_spec saB55 (by omega) (by omega) (by omega)
  clear h1; have h1 := h; clear h
  rcases Nat.lt_or_ge p 13907 with h | h
  · exact sB_spec saB56 (by omega) (by omega) (by omega)
  clear h1; have h1 := h; clear h
  exact sB_spec saB57 (by omega) (by omega) (by omega)
end Go.Proofs.YtpphfeinmmmckaaDoor
