/-
  Plain: rows of the sieve for two primes beyond the first rows, I from 789 to 1370: reckoned by the kernel (row2gen.py prints this text).
-/
import Derived.Test.YtpphfeinmmmckaaDoorMRow2
namespace Go.Proofs.YtpphfeinmmmckaaDoor
set_option maxRecDepth 100000
theorem r2E0 : rows2 789 2 = true := by decide +kernel
theorem r2E1 : rows2 793 2 = true := by decide +kernel
theorem r2E2 : rows2 797 2 = true := by decide +kernel
theorem r2E3 : rows2 801 3 = true := by decide +kernel
theorem r2E4 : rows2 807 2 = true := by decide +kernel
theorem r2E5 : rows2 811 3 = true := by decide +kernel
theorem r2E6 : rows2 817 3 = true := by decide +kernel
theorem r2E7 : rows2 823 3 = true := by decide +kernel
theorem r2E8 : rows2 829 3 = true := by decide +kernel
theorem r2E9 : rows2 835 3 = true := by decide +kernel
theorem r2E10 : rows2 841 3 = true := by decide +kernel
theorem r2E11 : rows2 847 3 = true := by decide +kernel
theorem r2E12 : rows2 853 3 = true := by decide +kernel
theorem r2E13 : rows2 859 3 = true := by decide +kernel
theorem r2E14 : rows2 865 3 = true := by decide +kernel
theorem r2E15 : rows2 871 3 = true := by decide +kernel
theorem r2E16 : rows2 877 3 = true := by decide +kernel
theorem r2E17 : rows2 883 3 = true := by decide +kernel
theorem r2E18 : rows2 889 3 = true := by decide +kernel
theorem r2E19 : rows2 895 3 = true := by decide +kernel
theorem r2E20 : rows2 901 3 = true := by decide +kernel
theorem r2E21 : rows2 907 3 = true := by decide +kernel
theorem r2E22 : rows2 913 3 = true := by decide +kernel
theorem r2E23 : rows2 919 3 = true := by decide +kernel
theorem r2E24 : rows2 925 3 = true := by decide +kernel
theorem r2E25 : rows2 931 4 = true := by decide +kernel
theorem r2E26 : rows2 939 4 = true := by decide +kernel
theorem r2E27 : rows2 947 3 = true := by decide +kernel
theorem r2E28 : rows2 953 4 = true := by decide +kernel
theorem r2E29 : rows2 961 3 = true := by decide +kernel
theorem r2E30 : rows2 967 3 = true := by decide +kernel
theorem r2E31 : rows2 973 4 = true := by decide +kernel
theorem r2E32 : rows2 981 4 = true := by decide +kernel
theorem r2E33 : rows2 989 4 = true := by decide +kernel
theorem r2E34 : rows2 997 4 = true := by decide +kernel
theorem r2E35 : rows2 1005 4 = true := by decide +kernel
theorem r2E36 : rows2 1013 4 = true := by decide +kernel
theorem r2E37 : rows2 1021 5 = true := by decide +kernel
theorem r2E38 : rows2 1031 4 = true := by decide +kernel
theorem r2E39 : rows2 1039 5 = true := by decide +kernel
theorem r2E40 : rows2 1049 4 = true := by decide +kernel
theorem r2E41 : rows2 1057 5 = true := by decide +kernel
theorem r2E42 : rows2 1067 4 = true := by decide +kernel
theorem r2E43 : rows2 1075 5 = true := by decide +kernel
theorem r2E44 : rows2 1085 5 = true := by decide +kernel
theorem r2E45 : rows2 1095 5 = true := by decide +kernel
theorem r2E46 : rows2 1105 6 = true := by decide +kernel
theorem r2E47 : rows2 1117 5 = true := by decide +kernel
theorem r2E48 : rows2 1127 5 = true := by decide +kernel
theorem r2E49 : rows2 1137 5 = true := by decide +kernel
theorem r2E50 : rows2 1147 5 = true := by decide +kernel
theorem r2E51 : rows2 1157 5 = true := by decide +kernel
theorem r2E52 : rows2 1167 6 = true := by decide +kernel
theorem r2E53 : rows2 1179 6 = true := by decide +kernel
theorem r2E54 : rows2 1191 6 = true := by decide +kernel
theorem r2E55 : rows2 1203 7 = true := by decide +kernel
theorem r2E56 : rows2 1217 6 = true := by decide +kernel
theorem r2E57 : rows2 1229 6 = true := by decide +kernel
theorem r2E58 : rows2 1241 6 = true := by decide +kernel
theorem r2E59 : rows2 1253 7 = true := by decide +kernel
theorem r2E60 : rows2 1267 7 = true := by decide +kernel
theorem r2E61 : rows2 1281 7 = true := by decide +kernel
theorem r2E62 : rows2 1295 7 = true := by decide +kernel
theorem r2E63 : rows2 1309 7 = true := by decide +kernel
theorem r2E64 : rows2 1323 8 = true := by decide +kernel
theorem r2E65 : rows2 1339 8 = true := by decide +kernel
theorem r2E66 : rows2 1355 8 = true := by decide +kernel
theorem r2E (I : Nat) (ho : I % 2 = 1) (h1 : 789 ≤ I) (h2 : I < 1371) : row2 I = true := by
  rcases Nat.lt_or_ge I 793 with h | h
  · exact rows2_spec r2E0 (by omega) (by omega) (by omega)
  clear h1; have h1 := h; clear h
  rcases Nat.lt_or_ge I 797 with h | h
  · exact rows2_spec r2E1 (by omega) (by omega) (by omega)
  clear h1; have h1 := h; clear h
  rcases Nat.lt_or_ge I 801 with h | h
  · exact rows2_spec r2E2 (by omega) (by omega) (by omega)
  clear h1; have h1 := h; clear h
  rcases Nat.lt_or_ge I 807 with h | h
  · exact rows2_spec r2E3 (by omega) (by omega) (by omega)
  clear h1; have h1 := h; clear h
  rcases Nat.lt_or_ge I 811 with h | h
  · exact rows2_spec r2E4 (by omega) (by omega) (by omega)
  clear h1; have h1 := h; clear h
  rcases Nat.lt_or_ge I 817 with h | h
  · exact rows2_spec r2E5 (by omega) (by omega) (by omega)
  clear h1; have h1 := h; clear h
  rcases Nat.lt_or_ge I 823 with h | h
  · exact rows2_spec r2E6 (by omega) (by omega) (by omega)
  clear h1; have h1 := h; clear h
  rcases Nat.lt_or_ge I 829 with h | h
  · exact rows2_spec r2E7 (by omega) (by omega) (by omega)
  clear h1; have h1 := h; clear h
  rcases Nat.lt_or_ge I 835 with h | h
  · exact rows2_spec r2E8 (by omega) (by omega) (by omega)
  clear h1; have h1 := h; clear h
  rcases Nat.lt_or_ge I 841 with h | h
  · exact rows2_spec r2E9 (by omega) (by omega) (by omega)
  clear h1; have h1 := h; clear h
  rcases Nat.lt_or_ge I 847 with h | h
  · exact rows2_spec r2E10 (by omega) (by omega) (by omega)
  clear h1; have h1 := h; clear h
  rcases Nat.lt_or_ge I 853 with h | h
  · exact rows2_spec r2E11 (by omega) (by omega) (by omega)
  clear h1; have h1 := h; clear h
  rcases Nat.lt_or_ge I 859 with h | h
  · exact rows2_spec r2E12 (by omega) (by omega) (by omega)
  clear h1; have h1 := h; clear h
  rcases Nat.lt_or_ge I 865 with h | h
  · exact rows2_spec r2E13 (by omega) (by omega) (by omega)
  clear h1; have h1 := h; clear h
  rcases Nat.lt_or_ge I 871 with h | h
  · exact rows2_spec r2E14 (by omega) (by omega) (by omega)
  clear h1; have h1 := h; clear h
  rcases Nat.lt_or_ge I 877 with h | h
  · exact rows2_spec r2E15 (by omega) (by omega) (by omega)
  clear h1; have h1 := h; clear h
  rcases Nat.lt_or_ge I 883 with h | h
  · exact rows2_spec r2E16 (by omega) (by omega) (by omega)
  clear h1; have h1 := h; clear h
  rcases Nat.lt_or_ge I 889 with h | h
  · exact rows2_spec r2E17 (by omega) (by omega) (by omega)
  clear h1; have h1 := h; clear h
  rcases Nat.lt_or_ge I 895 with h | h
  · exact rows2_spec r2E18 (by omega) (by omega) (by omega)
  clear h1; have h1 := h; clear h
  rcases Nat.lt_or_ge I 901 with h | h
  · exact rows2_spec r2E19 (by omega) (by omega) (by omega)
  clear h1; have h1 := h; clear h
  rcases Nat.lt_or_ge I 907 with h | h
  · exact rows2_spec r2E20 (by omega) (by omega) (by omega)
  clear h1; have h1 := h; clear h
  rcases Nat.lt_or_ge I 913 with h | h
  · exact rows2_spec r2E21 (by omega) (by omega) (by omega)
  clear h1; have h1 := h; clear h
  rcases Nat.lt_or_ge I 919 with h | h
  · exact rows2_spec r2E22 (by omega) (by omega) (by omega)
  clear h1; have h1 := h; clear h
  rcases Nat.lt_or_ge I 925 with h | h
  · exact rows2_spec r2E23 (by omega) (by omega) (by omega)
  clear h1; have h1 := h; clear h
  rcases Nat.lt_or_ge I 931 with h | h
  · exact rows2_spec r2E24 (by omega) (by omega) (by omega)
  clear h1; have h1 := h; clear h
  rcases Nat.lt_or_ge I 939 with h | h
  · exact rows2_spec r2E25 (by omega) (by omega) (by omega)
  clear h1; have h1 := h; clear h
  rcases Nat.lt_or_ge I 947 with h | h
  · exact rows2_spec r2E26 (by omega) (by omega) (by omega)
  clear h1; have h1 := h; clear h
  rcases Nat.lt_or_ge I 953 with h | h
  · exact rows2_spec r2E27 (by omega) (by omega) (by omega)
  clear h1; have h1 := h; clear h
  rcases Nat.lt_or_ge I 961 with h | h
  · exact rows2_spec r2E28 (by omega) (by omega) (by omega)
  clear h1; have h1 := h; clear h
  rcases Nat.lt_or_ge I 967 with h | h
  · exact rows2_spec r2E29 (by omega) (by omega) (by omega)
  clear h1; have h1 := h; clear h
  rcases Nat.lt_or_ge I 973 with h | h
  · exact rows2_spec r2E30 (by omega) (by omega) (by omega)
  clear h1; have h1 := h; clear h
  rcases Nat.lt_or_ge I 981 with h | h
  · exact rows2_spec r2E31 (by omega) (by omega) (by omega)
  clear h1; have h1 := h; clear h
  rcases Nat.lt_or_ge I 989 with h | h
  · exact rows2_spec r2E32 (by omega) (by omega) (by omega)
  clear h1; have h1 := h; clear h
  rcases Nat.lt_or_ge I 997 with h | h
  · exact rows2_spec r2E33 (by omega) (by omega) (by omega)
  clear h1; have h1 := h; clear h
  rcases Nat.lt_or_ge I 1005 with h | h
  · exact rows2_spec r2E34 (by omega) (by omega) (by omega)
  clear h1; have h1 := h; clear h
  rcases Nat.lt_or_ge I 1013 with h | h
  · exact rows2_spec r2E35 (by omega) (by omega) (by omega)
  clear h1; have h1 := h; clear h
  rcases Nat.lt_or_ge I 1021 with h | h
  · exact rows2_spec r2E36 (by omega) (by omega) (by omega)
  clear h1; have h1 := h; clear h
  rcases Nat.lt_or_ge I 1031 with h | h
  · exact rows2_spec r2E37 (by omega) (by omega) (by omega)
  clear h1; have h1 := h; clear h
  rcases Nat.lt_or_ge I 1039 with h | h
  · exact rows2_spec r2E38 (by omega) (by omega) (by omega)
  clear h1; have h1 := h; clear h
  rcases Nat.lt_or_ge I 1049 with h | h
  · exact rows2_spec r2E39 (by omega) (by omega) (by omega)
  clear h1; have h1 := h; clear h
  rcases Nat.lt_or_ge I 1057 with h | h
  · exact rows2_spec r2E40 (by omega) (by omega) (by omega)
  clear h1; have h1 := h; clear h
  rcases Nat.lt_or_ge I 1067 with h | h
  · exact rows2_spec r2E41 (by omega) (by omega) (by omega)
  clear h1; have h1 := h; clear h
  rcases Nat.lt_or_ge I 1075 with h | h
  · exact rows2_spec r2E42 (by omega) (by omega) (by omega)
  clear h1; have h1 := h; clear h
  rcases Nat.lt_or_ge I 1085 with h | h
  · exact rows2_spec r2E43 (by omega) (by omega) (by omega)
  clear h1; have h1 := h; clear h
  rcases Nat.lt_or_ge I 1095 with h | h
  · exact rows2_spec r2E44 (by omega) (by omega) (by omega)
  clear h1; have h1 := h; clear h
  rcases Nat.lt_or_ge I 1105 with h | h
  · exact rows2_spec r2E45 (by omega) (by omega) (by omega)
  clear h1; have h1 := h; clear h
  rcases Nat.lt_or_ge I 1117 with h | h
  · exact rows2_spec r2E46 (by omega) (by omega) (by omega)
  clear h1; have h1 := h; clear h
  rcases Nat.lt_or_ge I 1127 with h | h
  · exact rows2_spec r2E47 (by omega) (by omega) (by omega)
  clear h1; have h1 := h; clear h
  rcases Nat.lt_or_ge I 1137 with h | h
  · exact rows2_spec r2E48 (by omega) (by omega) (by omega)
  clear h1; have h1 := h; clear h
  rcases Nat.lt_or_ge I 1147 with h | h
  · exact rows2_spec r2E49 (by omega) (by omega) (by omega)
  clear h1; have h1 := h; clear h
  rcases Nat.lt_or_ge I 1157 with h | h
  · exact rows2_spec r2E50 (by omega) (by omega) (by omega)
  clear h1; have h1 := h; clear h
  rcases Nat.lt_or_ge I 1167 with h | h
  · exact rows2_spec r2E51 (by omega) (by omega) (by omega)
  clear h1; have h1 := h; clear h
  rcases Nat.lt_or_ge I 1179 with h | h
  · exact rows2_spec r2E52 (by omega) (by omega) (by omega)
  clear h1; have h1 := h; clear h
  rcases Nat.lt_or_ge I 1191 with h | h
  · exact rows2_spec r2E53 (by omega) (by omega) (by omega)
  clear h1; have h1 := h; clear h
  rcases Nat.lt_or_ge I 1203 with h | h
  · exact rows2_spec r2E54 (by omega) (by omega) (by omega)
  clear h1; have h1 := h; clear h
  rcases Nat.lt_or_ge I 1217 with h | h
  · exact rows2_spec r2E55 (by omega) (by omega) (by omega)
  clear h1; have h1 := h; clear h
  rcases Nat.lt_or_ge I 1229 with h | h
  · exact rows2_spec r2E56 (by omega) (by omega) (by omega)
  clear h1; have h1 := h; clear h
  rcases Nat.lt_or_ge I 1241 with h | h
  · exact rows2_spec r2E57 (by omega) (by omega) (by omega)
  clear h1; have h1 := h; clear h
  rcases Nat.lt_or_ge I 1253 with h | h
  · exact rows2_spec r2E58 (by omega) (by omega) (by omega)
  clear h1; have h1 := h; clear h
  rcases Nat.lt_or_ge I 1267 with h | h
  · exact rows2_spec r2E59 (by omega) (by omega) (by omega)
  clear h1; have h1 := h; clear h
  rcases Nat.lt_or_ge I 1281 with h | h
  · exact rows2_spec r2E60 (by omega) (by omega) (by omega)
  clear h1; have h1 := h; clear h
  rcases Nat.lt_or_ge I 1295 with h | h
  · exact rows2_spec r2E61 (by omega) (by omega) (by omega)
  clear h1; have h1 := h; clear h
  rcases Nat.lt_or_ge I 1309 with h | h
  · exact rows2_spec r2E62 (by omega) (by omega) (by omega)
  clear h1; have h1 := h; clear h
  rcases Nat.lt_or_ge I 1323 with h | h
  · exact rows2_spec r2E63 (by omega) (by omega) (by omega)
  clear h1; have h1 := h; clear h
  rcases Nat.lt_or_ge I 1339 with h | h
  · exact rows2_spec r2E64 (by omega) (by omega) (by omega)
  clear h1; have h1 := h; clear h
  rcases Nat.lt_or_ge I 1355 with h | h
  · exact rows2_spec r2E65 (by omega) (by omega) (by omega)
  clear h1; have h1 := h; clear h
  exact rows2_spec r2E66 (by omega) (by omega) (by omega)
end Go.Proofs.YtpphfeinmmmckaaDoor
