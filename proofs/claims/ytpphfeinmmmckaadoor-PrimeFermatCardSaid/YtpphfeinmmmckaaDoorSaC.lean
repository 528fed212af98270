/-
  Plain: three primes, the least from 14221 to 34428, the second of the same characters: reckoned by the kernel (sagen.py prints this text).
-/
import Derived.Test.YtpphfeinmmmckaaDoorSa
namespace Go.Proofs.YtpphfeinmmmckaaDoor
open Nt
set_option maxRecDepth 100000
theorem saC0 : sB 3145640 14221 156 = true := by decide +kernel
theorem saC1 : sB 3112094 14533 117 = true := by decide +kernel
theorem saC2 : sB 3087629 14767 147 = true := by decide +kernel
theorem saC3 : sB 3057698 15061 123 = true := by decide +kernel
theorem saC4 : sB 3033313 15307 138 = true := by decide +kernel
theorem saC5 : sB 3006640 15583 138 = true := by decide +kernel
theorem saC6 : sB 2980661 15859 140 = true := by decide +kernel
theorem saC7 : sB 2954984 16139 157 = true := by decide +kernel
theorem saC8 : sB 2926967 16453 167 = true := by decide +kernel
theorem saC9 : sB 2898025 16787 153 = true := by decide +kernel
theorem saC10 : sB 2872253 17093 150 = true := by decide +kernel
theorem saC11 : sB 2847644 17393 145 = true := by decide +kernel
theorem saC12 : sB 2824449 17683 153 = true := by decide +kernel
theorem saC13 : sB 2800581 17989 150 = true := by decide +kernel
theorem saC14 : sB 2777761 18289 152 = true := by decide +kernel
theorem saC15 : sB 2755197 18593 208 = true := by decide +kernel
theorem saC16 : sB 2725197 19009 185 = true := by decide +kernel
theorem saC17 : sB 2699324 19379 141 = true := by decide +kernel
theorem saC18 : sB 2680093 19661 159 = true := by decide +kernel
theorem saC19 : sB 2658895 19979 159 = true := by decide +kernel
theorem saC20 : sB 2638194 20297 172 = true := by decide +kernel
theorem saC21 : sB 2616337 20641 180 = true := by decide +kernel
theorem saC22 : sB 2594037 21001 161 = true := by decide +kernel
theorem saC23 : sB 2574568 21323 162 = true := by decide +kernel
theorem saC24 : sB 2555416 21647 178 = true := by decide +kernel
theorem saC25 : sB 2534860 22003 152 = true := by decide +kernel
theorem saC26 : sB 2517693 22307 195 = true := by decide +kernel
theorem saC27 : sB 2496175 22697 171 = true := by decide +kernel
theorem saC28 : sB 2477753 23039 180 = true := by decide +kernel
theorem saC29 : sB 2458797 23399 181 = true := by decide +kernel
theorem saC30 : sB 2440170 23761 161 = true := by decide +kernel
theorem saC31 : sB 2423952 24083 195 = true := by decide +kernel
theorem saC32 : sB 2404738 24473 222 = true := by decide +kernel
theorem saC33 : sB 2383411 24917 193 = true := by decide +kernel
theorem saC34 : sB 2365325 25303 185 = true := by decide +kernel
theorem saC35 : sB 2348371 25673 190 = true := by decide +kernel
theorem saC36 : sB 2331334 26053 189 = true := by decide +kernel
theorem saC37 : sB 2314750 26431 195 = true := by decide +kernel
theorem saC38 : sB 2298007 26821 209 = true := by decide +kernel
theorem saC39 : sB 2280459 27239 226 = true := by decide +kernel
theorem saC40 : sB 2261931 27691 170 = true := by decide +kernel
theorem saC41 : sB 2248288 28031 223 = true := by decide +kernel
theorem saC42 : sB 2230762 28477 168 = true := by decide +kernel
theorem saC43 : sB 2217827 28813 209 = true := by decide +kernel
theorem saC44 : sB 2202045 29231 216 = true := by decide +kernel
theorem saC45 : sB 2186084 29663 228 = true := by decide +kernel
theorem saC46 : sB 2169610 30119 219 = true := by decide +kernel
theorem saC47 : sB 2154131 30557 213 = true := by decide +kernel
theorem saC48 : sB 2139391 30983 198 = true := by decide +kernel
theorem saC49 : sB 2125957 31379 240 = true := by decide +kernel
theorem saC50 : sB 2110010 31859 225 = true := by decide +kernel
theorem saC51 : sB 2095382 32309 192 = true := by decide +kernel
theorem saC52 : sB 2083137 32693 207 = true := by decide +kernel
theorem saC53 : sB 2070173 33107 228 = true := by decide +kernel
theorem saC54 : sB 2056172 33563 189 = true := by decide +kernel
theorem saC55 : sB 2044779 33941 244 = true := by decide +kernel
theorem saC (p : Nat) (ho : p % 2 = 1) (h1 : 14221 ≤ p) (h2 : p < 34429) : ∃ rs W, (∀ e ∈ rs, e.1 ∈ ones ∧ e.2 = repD e.1.d (W / e.1.d + 2)) ∧ sP rs W p = true := by
  rcases Nat.lt_or_ge p 14533 with h | h
  · exact sB_spec saC0 (by omega) (by omega) (by omega)
  clear h1; have h1 := h; clear h
  rcases Nat.lt_or_ge p 14767 with h | h
  · exact sB_spec saC1 (by omega) (by omega) (by omega)
  clear h1; have h1 := h; clear h
  rcases Nat.lt_or_ge p 15061 with h | h
  · exact sB_spec saC2 (by omega) (by omega) (by omega)
  clear h1; have h1 := h; clear h
  rcases Nat.lt_or_ge p 15307 with h | h
  · exact sB_spec saC3 (by omega) (by omega) (by omega)
  clear h1; have h1 := h; clear h
  rcases Nat.lt_or_ge p 15583 with h | h
  · exact sB_spec saC4 (by omega) (by omega) (by omega)
  clear h1; have h1 := h; clear h
  rcases Nat.lt_or_ge p 15859 with h | h
  · exact sB_spec saC5 (by omega) (by omega) (by omega)
  clear h1; have h1 := h; clear h
  rcases Nat.lt_or_ge p 16139 with h | h
  · exact sB_spec saC6 (by omega) (by omega) (by omega)
  clear h1; have h1 := h; clear h
  rcases Nat.lt_or_ge p 16453 with h | h
  · exact sB_spec saC7 (by omega) (by omega) (by omega)
  clear h1; have h1 := h; clear h
  rcases Nat.lt_or_ge p 16787 with h | h
  · exact sB_spec saC8 (by omega) (by omega) (by omega)
  clear h1; have h1 := h; clear h
  rcases Nat.lt_or_ge p 17093 with h | h
  · exact sB_spec saC9 (by omega) (by omega) (by omega)
  clear h1; have h1 := h; clear h
  rcases Nat.lt_or_ge p 17393 with h | h
  · exact sB_spec saC10 (by omega) (by omega) (by omega)
  clear h1; have h1 := h; clear h
  rcases Nat.lt_or_ge p 17683 with h | h
  · exact sB_spec saC11 (by omega) (by omega) (by omega)
  clear h1; have h1 := h; clear h
  rcases Nat.lt_or_ge p 17989 with h | h
  · exact sB_spec saC12 (by omega) (by omega) (by omega)
  clear h1; have h1 := h; clear h
  rcases Nat.lt_or_ge p 18289 with h | h
  · exact sB_spec saC13 (by omega) (by omega) (by omega)
  clear h1; have h1 := h; clear h
  rcases Nat.lt_or_ge p 18593 with h | h
  · exact sB_spec saC14 (by omega) (by omega) (by omega)
  clear h1; have h1 := h; clear h
  rcases Nat.lt_or_ge p 19009 with h | h
  · exact sB_spec saC15 (by omega) (by omega) (by omega)
  clear h1; have h1 := h; clear h
  rcases Nat.lt_or_ge p 19379 with h | h
  · exact sB_spec saC16 (by omega) (by omega) (by omega)
  clear h1; have h1 := h; clear h
  rcases Nat.lt_or_ge p 19661 with h | h
  · exact sB_spec saC17 (by omega) (by omega) (by omega)
  clear h1; have h1 := h; clear h
  rcases Nat.lt_or_ge p 19979 with h | h
  · exact sB_spec saC18 (by omega) (by omega) (by omega)
  clear h1; have h1 := h; clear h
  rcases Nat.lt_or_ge p 20297 with h | h
  · exact sB_spec saC19 (by omega) (by omega) (by omega)
  clear h1; have h1 := h; clear h
  rcases Nat.lt_or_ge p 20641 with h | h
  · exact sB_spec saC20 (by omega) (by omega) (by omega)
  clear h1; have h1 := h; clear h
  rcases Nat.lt_or_ge p 21001 with h | h
  · exact sB_spec saC21 (by omega) (by omega) (by omega)
  clear h1; have h1 := h; clear h
  rcases Nat.lt_or_ge p 21323 with h | h
  · exact sB_spec saC22 (by omega) (by omega) (by omega)
  clear h1; have h1 := h; clear h
  rcases Nat.lt_or_ge p 21647 with h | h
  · exact sB_spec saC23 (by omega) (by omega) (by omega)
  clear h1; have h1 := h; clear h
  rcases Nat.lt_or_ge p 22003 with h | h
  · exact sB_spec saC24 (by omega) (by omega) (by omega)
  clear h1; have h1 := h; clear h
  rcases Nat.lt_or_ge p 22307 with h | h
  · exact sB_spec saC25 (by omega) (by omega) (by omega)
  clear h1; have h1 := h; clear h
  rcases Nat.lt_or_ge p 22697 with h | h
  · exact sB_spec saC26 (by omega) (by omega) (by omega)
  clear h1; have h1 := h; clear h
  rcases Nat.lt_or_ge p 23039 with h | h
  · exact sB_spec saC27 (by omega) (by omega) (by omega)
  clear h1; have h1 := h; clear h
  rcases Nat.lt_or_ge p 23399 with h | h
  · exact sB_spec saC28 (by omega) (by omega) (by omega)
  clear h1; have h1 := h; clear h
  rcases Nat.lt_or_ge p 23761 with h | h
  · exact sB_spec saC29 (by omega) (by omega) (by omega)
  clear h1; have h1 := h; clear h
  rcases Nat.lt_or_ge p 24083 with h | h
  · exact sB_spec saC30 (by omega) (by omega) (by omega)
  clear h1; have h1 := h; clear h
  rcases Nat.lt_or_ge p 24473 with h | h
  · exact sB_spec saC31 (by omega) (by omega) (by omega)
  clear h1; have h1 := h; clear h
  rcases Nat.lt_or_ge p 24917 with h | h
  · exact sB_spec saC32 (by omega) (by omega) (by omega)
  clear h1; have h1 := h; clear h
  rcases Nat.lt_or_ge p 25303 with h | h
  · exact sB_spec saC33 (by omega) (by omega) (by omega)
  clear h1; have h1 := h; clear h
  rcases Nat.lt_or_ge p 25673 with h | h
  · exact sB_spec saC34 (by omega) (by omega) (by omega)
  clear h1; have h1 := h; clear h
  rcases Nat.lt_or_ge p 26053 with h | h
  · exact sB_spec saC35 (by omega) (by omega) (by omega)
  clear h1; have h1 := h; clear h
  rcases Nat.lt_or_ge p 26431 with h | h
  · exact sB_spec saC36 (by omega) (by omega) (by omega)
  clear h1; have h1 := h; clear h
  rcases Nat.lt_or_ge p 26821 with h | h
  · exact sB_spec saC37 (by omega) (by omega) (by omega)
  clear h1; have h1 := h; clear h
  rcases Nat.lt_or_ge p 27239 with h | h
  · exact sB_spec saC38 (by omega) (by omega) (by omega)
  clear h1; have h1 := h; clear h
  rcases Nat.lt_or_ge p 27691 with h | h
  · exact sB_spec saC39 (by omega) (by omega) (by omega)
  clear h1; have h1 := h; clear h
  rcases Nat.lt_or_ge p 28031 with h | h
  · exact sB_spec saC40 (by omega) (by omega) (by omega)
  clear h1; have h1 := h; clear h
  rcases Nat.lt_or_ge p 28477 with h | h
  · exact sB_spec saC41 (by omega) (by omega) (by omega)
  clear h1; have h1 := h; clear h
  rcases Nat.lt_or_ge p 28813 with h | h
  · exact sB_spec saC42 (by omega) (by omega) (by omega)
  clear h1; have h1 := h; clear h
  rcases Nat.lt_or_ge p 29231 with h | h
  · exact sB_spec saC43 (by omega) (by omega) (by omega)
  clear h1; have h1 := h; clear h
  rcases Nat.lt_or_ge p 29663 with h | h
  · exact sB_spec saC44 (by omega) (by omega) (by omega)
  clear h1; have h1 := h; clear h
  rcases Nat.lt_or_ge p 30119 with h | h
  · exact sB_spec saC45 (by omega) (by omega) (by omega)
  clear h1; have h1 := h; clear h
  rcases Nat.lt_or_ge p 30557 with h | h
  · exact sB_spec saC46 (by omega) (by omega) (by omega)
  clear h1; have h1 := h; clear h
  rcases Nat.lt_or_ge p 30983 with h | h
  · exact sB_spec saC47 (by omega) (by omega) (by omega)
  clear h1; have h1 := h; clear h
  rcases Nat.lt_or_ge p 31379 with h | h
  · exact sB_spec saC48 (by omega) (by omega) (by omega)
  clear h1; have h1 := h; clear h
  rcases Nat.lt_or_ge p 31859 with h | h
  · exact sB_spec saC49 (by omega) (by omega) (by omega)
  clear h1; have h1 := h; clear h
  rcases Nat.lt_or_ge p 32309 with h | h
  · exact sB_spec saC50 (by omega) (by omega) (by omega)
  clear h1; have h1 := h; clear h
  rcases Nat.lt_or_ge p 32693 with h | h
  · exact sB_spec saC51 (by omega) (by omega) (by omega)
  clear h1; have h1 := h; clear h
  rcases Nat.lt_or_ge p 33107 with h | h
  · exact sB_spec saC52 (by omega) (by omega) (by omega)
  clear h1; have h1 := h; clear h
  rcases Nat.lt_or_ge p 33563 with h | h
  · exact sB_spec saC53 (by omega) (by omega) (by omega)
  clear h1; have h1 := h; clear h
  rcases Nat.lt_or_ge p 33941 with h | h
  · exact sB_spec saC54 (by omega) (by omega) (by omega)
  clear h1; have h1 := h; clear h
  exact sB_spec saC55 (by omega) (by omega) (by omega)
end Go.Proofs.YtpphfeinmmmckaaDoor
