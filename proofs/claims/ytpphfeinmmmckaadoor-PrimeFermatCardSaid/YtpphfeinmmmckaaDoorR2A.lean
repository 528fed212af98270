/-
  Plain: rows of the sieve for two primes beyond the first rows, I from 3 to 216: reckoned by the kernel (row2gen.py prints this text).
-/
import Derived.Test.YtpphfeinmmmckaaDoorMRow2
namespace Go.Proofs.YtpphfeinmmmckaaDoor
set_option maxRecDepth 100000
theorem r2A0 : rows2 3 3 = true := by decide +kernel
theorem r2A1 : rows2 9 2 = true := by decide +kernel
theorem r2A2 : rows2 13 2 = true := by decide +kernel
theorem r2A3 : rows2 17 1 = true := by decide +kernel
theorem r2A4 : rows2 19 2 = true := by decide +kernel
theorem r2A5 : rows2 23 1 = true := by decide +kernel
theorem r2A6 : rows2 25 2 = true := by decide +kernel
theorem r2A7 : rows2 29 1 = true := by decide +kernel
theorem r2A8 : rows2 31 2 = true := by decide +kernel
theorem r2A9 : rows2 35 1 = true := by decide +kernel
theorem r2A10 : rows2 37 2 = true := by decide +kernel
theorem r2A11 : rows2 41 1 = true := by decide +kernel
theorem r2A12 : rows2 43 2 = true := by decide +kernel
theorem r2A13 : rows2 47 1 = true := by decide +kernel
theorem r2A14 : rows2 49 2 = true := by decide +kernel
theorem r2A15 : rows2 53 1 = true := by decide +kernel
theorem r2A16 : rows2 55 2 = true := by decide +kernel
theorem r2A17 : rows2 59 1 = true := by decide +kernel
theorem r2A18 : rows2 61 1 = true := by decide +kernel
theorem r2A19 : rows2 63 2 = true := by decide +kernel
theorem r2A20 : rows2 67 1 = true := by decide +kernel
theorem r2A21 : rows2 69 1 = true := by decide +kernel
theorem r2A22 : rows2 71 1 = true := by decide +kernel
theorem r2A23 : rows2 73 1 = true := by decide +kernel
theorem r2A24 : rows2 75 2 = true := by decide +kernel
theorem r2A25 : rows2 79 1 = true := by decide +kernel
theorem r2A26 : rows2 81 1 = true := by decide +kernel
theorem r2A27 : rows2 83 1 = true := by decide +kernel
theorem r2A28 : rows2 85 2 = true := by decide +kernel
theorem r2A29 : rows2 89 1 = true := by decide +kernel
theorem r2A30 : rows2 91 1 = true := by decide +kernel
theorem r2A31 : rows2 93 2 = true := by decide +kernel
theorem r2A32 : rows2 97 1 = true := by decide +kernel
theorem r2A33 : rows2 99 1 = true := by decide +kernel
theorem r2A34 : rows2 101 1 = true := by decide +kernel
theorem r2A35 : rows2 103 1 = true := by decide +kernel
theorem r2A36 : rows2 105 1 = true := by decide +kernel
theorem r2A37 : rows2 107 1 = true := by decide +kernel
theorem r2A38 : rows2 109 1 = true := by decide +kernel
theorem r2A39 : rows2 111 1 = true := by decide +kernel
theorem r2A40 : rows2 113 1 = true := by decide +kernel
theorem r2A41 : rows2 115 2 = true := by decide +kernel
theorem r2A42 : rows2 119 1 = true := by decide +kernel
theorem r2A43 : rows2 121 1 = true := by decide +kernel
theorem r2A44 : rows2 123 1 = true := by decide +kernel
theorem r2A45 : rows2 125 1 = true := by decide +kernel
theorem r2A46 : rows2 127 1 = true := by decide +kernel
theorem r2A47 : rows2 129 1 = true := by decide +kernel
theorem r2A48 : rows2 131 1 = true := by decide +kernel
theorem r2A49 : rows2 133 2 = true := by decide +kernel
theorem r2A50 : rows2 137 1 = true := by decide +kernel
theorem r2A51 : rows2 139 1 = true := by decide +kernel
theorem r2A52 : rows2 141 1 = true := by decide +kernel
theorem r2A53 : rows2 143 1 = true := by decide +kernel
theorem r2A54 : rows2 145 1 = true := by decide +kernel
theorem r2A55 : rows2 147 1 = true := by decide +kernel
theorem r2A56 : rows2 149 1 = true := by decide +kernel
theorem r2A57 : rows2 151 1 = true := by decide +kernel
theorem r2A58 : rows2 153 1 = true := by decide +kernel
theorem r2A59 : rows2 155 1 = true := by decide +kernel
theorem r2A60 : rows2 157 1 = true := by decide +kernel
theorem r2A61 : rows2 159 1 = true := by decide +kernel
theorem r2A62 : rows2 161 1 = true := by decide +kernel
theorem r2A63 : rows2 163 1 = true := by decide +kernel
theorem r2A64 : rows2 165 1 = true := by decide +kernel
theorem r2A65 : rows2 167 1 = true := by decide +kernel
theorem r2A66 : rows2 169 1 = true := by decide +kernel
theorem r2A67 : rows2 171 1 = true := by decide +kernel
theorem r2A68 : rows2 173 1 = true := by decide +kernel
theorem r2A69 : rows2 175 1 = true := by decide +kernel
theorem r2A70 : rows2 177 1 = true := by decide +kernel
theorem r2A71 : rows2 179 1 = true := by decide +kernel
theorem r2A72 : rows2 181 1 = true := by decide +kernel
theorem r2A73 : rows2 183 1 = true := by decide +kernel
theorem r2A74 : rows2 185 1 = true := by decide +kernel
theorem r2A75 : rows2 187 1 = true := by decide +kernel
theorem r2A76 : rows2 189 1 = true := by decide +kernel
theorem r2A77 : rows2 191 1 = true := by decide +kernel
theorem r2A78 : rows2 193 1 = true := by decide +kernel
theorem r2A79 : rows2 195 1 = true := by decide +kernel
theorem r2A80 : rows2 197 1 = true := by decide +kernel
theorem r2A81 : rows2 199 1 = true := by decide +kernel
theorem r2A82 : rows2 201 1 = true := by decide +kernel
theorem r2A83 : rows2 203 1 = true := by decide +kernel
theorem r2A84 : rows2 205 1 = true := by decide +kernel
theorem r2A85 : rows2 207 1 = true := by decide +kernel
theorem r2A86 : rows2 209 1 = true := by decide +kernel
theorem r2A87 : rows2 211 1 = true := by decide +kernel
theorem r2A88 : rows2 213 1 = true := by decide +kernel
theorem r2A89 : rows2 215 1 = true := by decide +kernel
theorem r2A (I : Nat) (ho : I % 2 = 1) (h1 : 3 ≤ I) (h2 : I < 217) : row2 I = true := by
  rcases Nat.lt_or_ge I 9 with h | h
  · exact rows2_spec r2A0 (by omega) (by omega) (by omega)
  clear h1; have h1 := h; clear h
  rcases Nat.lt_or_ge I 13 with h | h
  · exact rows2_spec r2A1 (by omega) (by omega) (by omega)
  clear h1; have h1 := h; clear h
  rcases Nat.lt_or_ge I 17 with h | h
  · exact rows2_spec r2A2 (by omega) (by omega) (by omega)
  clear h1; have h1 := h; clear h
  rcases Nat.lt_or_ge I 19 with h | h
  · exact rows2_spec r2A3 (by omega) (by omega) (by omega)
  clear h1; have h1 := h; clear h
  rcases Nat.lt_or_ge I 23 with h | h
  · exact rows2_spec r2A4 (by omega) (by omega) (by omega)
  clear h1; have h1 := h; clear h
  rcases Nat.lt_or_ge I 25 with h | h
  · exact rows2_spec r2A5 (by omega) (by omega) (by omega)
  clear h1; have h1 := h; clear h
  rcases Nat.lt_or_ge I 29 with h | h
  · exact rows2_spec r2A6 (by omega) (by omega) (by omega)
  clear h1; have h1 := h; clear h
  rcases Nat.lt_or_ge I 31 with h | h
  · exact rows2_spec r2A7 (by omega) (by omega) (by omega)
  clear h1; have h1 := h; clear h
  rcases Nat.lt_or_ge I 35 with h | h
  · exact rows2_spec r2A8 (by omega) (by omega) (by omega)
  clear h1; have h1 := h; clear h
  rcases Nat.lt_or_ge I 37 with h | h
  · exact rows2_spec r2A9 (by omega) (by omega) (by omega)
  clear h1; have h1 := h; clear h
  rcases Nat.lt_or_ge I 41 with h | h
  · exact rows2_spec r2A10 (by omega) (by omega) (by omega)
  clear h1; have h1 := h; clear h
  rcases Nat.lt_or_ge I 43 with h | h
  · exact rows2_spec r2A11 (by omega) (by omega) (by omega)
  clear h1; have h1 := h; clear h
  rcases Nat.lt_or_ge I 47 with h | h
  · exact rows2_spec r2A12 (by omega) (by omega) (by omega)
  clear h1; have h1 := h; clear h
  rcases Nat.lt_or_ge I 49 with h | h
  · exact rows2_spec r2A13 (by omega) (by omega) (by omega)
  clear h1; have h1 := h; clear h
  rcases Nat.lt_or_ge I 53 with h | h
  · exact rows2_spec r2A14 (by omega) (by omega) (by omega)
  clear h1; have h1 := h; clear h
  rcases Nat.lt_or_ge I 55 with h | h
  · exact rows2_spec r2A15 (by omega) (by omega) (by omega)
  clear h1; have h1 := h; clear h
  rcases Nat.lt_or_ge I 59 with h | h
  · exact rows2_spec r2A16 (by omega) (by omega) (by omega)
  clear h1; have h1 := h; clear h
  rcases Nat.lt_or_ge I 61 with h | h
  · exact rows2_spec r2A17 (by omega) (by omega) (by omega)
  clear h1; have h1 := h; clear h
  rcases Nat.lt_or_ge I 63 with h | h
  · exact rows2_spec r2A18 (by omega) (by omega) (by omega)
  clear h1; have h1 := h; clear h
  rcases Nat.lt_or_ge I 67 with h | h
  · exact rows2_spec r2A19 (by omega) (by omega) (by omega)
  clear h1; have h1 := h; clear h
  rcases Nat.lt_or_ge I 69 with h | h
  · exact rows2_spec r2A20 (by omega) (by omega) (by omega)
  clear h1; have h1 := h; clear h
  rcases Nat.lt_or_ge I 71 with h | h
  · exact rows2_spec r2A21 (by omega) (by omega) (by omega)
  clear h1; have h1 := h; clear h
  rcases Nat.lt_or_ge I 73 with h | h
  · exact rows2_spec r2A22 (by omega) (by omega) (by omega)
  clear h1; have h1 := h; clear h
  rcases Nat.lt_or_ge I 75 with h | h
  · exact rows2_spec r2A23 (by omega) (by omega) (by omega)
  clear h1; have h1 := h; clear h
  rcases Nat.lt_or_ge I 79 with h | h
  · exact rows2_spec r2A24 (by omega) (by omega) (by omega)
  clear h1; have h1 := h; clear h
  rcases Nat.lt_or_ge I 81 with h | h
  · exact rows2_spec r2A25 (by omega) (by omega) (by omega)
  clear h1; have h1 := h; clear h
  rcases Nat.lt_or_ge I 83 with h | h
  · exact rows2_spec r2A26 (by omega) (by omega) (by omega)
  clear h1; have h1 := h; clear h
  rcases Nat.lt_or_ge I 85 with h | h
  · exact rows2_spec r2A27 (by omega) (by omega) (by omega)
  clear h1; have h1 := h; clear h
  rcases Nat.lt_or_ge I 89 with h | h
  · exact rows2_spec r2A28 (by omega) (by omega) (by omega)
  clear h1; have h1 := h; clear h
  rcases Nat.lt_or_ge I 91 with h | h
  · exact rows2_spec r2A29 (by omega) (by omega) (by omega)
  clear h1; have h1 := h; clear h
  rcases Nat.lt_or_ge I 93 with h | h
  · exact rows2_spec r2A30 (by omega) (by omega) (by omega)
  clear h1; have h1 := h; clear h
  rcases Nat.lt_or_ge I 97 with h | h
  · exact rows2_spec r2A31 (by omega) (by omega) (by omega)
  clear h1; have h1 := h; clear h
  rcases Nat.lt_or_ge I 99 with h | h
  · exact rows2_spec r2A32 (by omega) (by omega) (by omega)
  clear h1; have h1 := h; clear h
  rcases Nat.lt_or_ge I 101 with h | h
  · exact rows2_spec r2A33 (by omega) (by omega) (by omega)
  clear h1; have h1 := h; clear h
  rcases Nat.lt_or_ge I 103 with h | h
  · exact rows2_spec r2A34 (by omega) (by omega) (by omega)
  clear h1; have h1 := h; clear h
  rcases Nat.lt_or_ge I 105 with h | h
  · exact rows2_spec r2A35 (by omega) (by omega) (by omega)
  clear h1; have h1 := h; clear h
  rcases Nat.lt_or_ge I 107 with h | h
  · exact rows2_spec r2A36 (by omega) (by omega) (by omega)
  clear h1; have h1 := h; clear h
  rcases Nat.lt_or_ge I 109 with h | h
  · exact rows2_spec r2A37 (by omega) (by omega) (by omega)
  clear h1; have h1 := h; clear h
  rcases Nat.lt_or_ge I 111 with h | h
  · exact rows2_spec r2A38 (by omega) (by omega) (by omega)
  clear h1; have h1 := h; clear h
  rcases Nat.lt_or_ge I 113 with h | h
  · exact rows2_spec r2A39 (by omega) (by omega) (by omega)
  clear h1; have h1 := h; clear h
  rcases Nat.lt_or_ge I 115 with h | h
  · exact rows2_spec r2A40 (by omega) (by omega) (by omega)
  clear h1; have h1 := h; clear h
  rcases Nat.lt_or_ge I 119 with h | h
  · exact rows2_spec r2A41 (by omega) (by omega) (by omega)
  clear h1; have h1 := h; clear h
  rcases Nat.lt_or_ge I 121 with h | h
  · exact rows2_spec r2A42 (by omega) (by omega) (by omega)
  clear h1; have h1 := h; clear h
  rcases Nat.lt_or_ge I 123 with h | h
  · exact rows2_spec r2A43 (by omega) (by omega) (by omega)
  clear h1; have h1 := h; clear h
  rcases Nat.lt_or_ge I 125 with h | h
  · exact rows2_spec r2A44 (by omega) (by omega) (by omega)
  clear h1; have h1 := h; clear h
  rcases Nat.lt_or_ge I 127 with h | h
  · exact rows2_spec r2A45 (by omega) (by omega) (by omega)
  clear h1; have h1 := h; clear h
  rcases Nat.lt_or_ge I 129 with h | h
  · exact rows2_spec r2A46 (by omega) (by omega) (by omega)
  clear h1; have h1 := h; clear h
  rcases Nat.lt_or_ge I 131 with h | h
  · exact rows2_spec r2A47 (by omega) (by omega) (by omega)
  clear h1; have h1 := h; clear h
  rcases Nat.lt_or_ge I 133 with h | h
  · exact rows2_spec r2A48 (by omega) (by omega) (by omega)
  clear h1; have h1 := h; clear h
  rcases Nat.lt_or_ge I 137 with h | h
  · exact rows2_spec r2A49 (by omega) (by omega) (by omega)
  clear h1; have h1 := h; clear h
  rcases Nat.lt_or_ge I 139 with h | h
  · exact rows2_spec r2A50 (by omega) (by omega) (by omega)
  clear h1; have h1 := h; clear h
  rcases Nat.lt_or_ge I 141 with h | h
  · exact rows2_spec r2A51 (by omega) (by omega) (by omega)
  clear h1; have h1 := h; clear h
  rcases Nat.lt_or_ge I 143 with h | h
  · exact rows2_spec r2A52 (by omega) (by omega) (by omega)
  clear h1; have h1 := h; clear h
  rcases Nat.lt_or_ge I 145 with h | h
  · exact rows2_spec r2A53 (by omega) (by omega) (by omega)
  clear h1; have h1 := h; clear h
  rcases Nat.lt_or_ge I 147 with h | h
  · exact rows2_spec r2A54 (by omega) (by omega) (by omega)
  clear h1; have h1 := h; clear h
  rcases Nat.lt_or_ge I 149 with h | h
  · exact rows2_spec r2A55 (by omega) (by omega) (by omega)
  clear h1; have h1 := h; clear h
  rcases Nat.lt_or_ge I 151 with h | h
  · exact rows2_spec r2A56 (by omega) (by omega) (by omega)
  clear h1; have h1 := h; clear h
  rcases Nat.lt_or_ge I 153 with h | h
  · exact rows2_spec r2A57 (by omega) (by omega) (by omega)
  clear h1; have h1 := h; clear h
  rcases Nat.lt_or_ge I 155 with h | h
  · exact rows2_spec r2A58 (by omega) (by omega) (by omega)
  clear h1; have h1 := h; clear h
  rcases Nat.lt_or_ge I 157 with h | h
  · exact rows2_spec r2A59 (by omega) (by omega) (by omega)
  clear h1; have h1 := h; clear h
  rcases Nat.lt_or_ge I 159 with h | h
  · exact rows2_spec r2A60 (by omega) (by omega) (by omega)
  clear h1; have h1 := h; clear h
  rcases Nat.lt_or_ge I 161 with h | h
  · exact rows2_spec r2A61 (by omega) (by omega) (by omega)
  clear h1; have h1 := h; clear h
  rcases Nat.lt_or_ge I 163 with h | h
  · exact rows2_spec r2A62 (by omega) (by omega) (by omega)
  clear h1; have h1 := h; clear h
  rcases Nat.lt_or_ge I 165 with h | h
  · exact rows2_spec r2A63 (by omega) (by omega) (by omega)
  clear h1; have h1 := h; clear h
  rcases Nat.lt_or_ge I 167 with h | h
  · exact rows2_spec r2A64 (by omega) (by omega) (by omega)
  clear h1; have h1 := h; clear h
  rcases Nat.lt_or_ge I 169 with h | h
  · exact rows2_spec r2A65 (by omega) (by omega) (by omega)
  clear h1; have h1 := h; clear h
  rcases Nat.lt_or_ge I 171 with h | h
  · exact rows2_spec r2A66 (by omega) (by omega) (by omega)
  clear h1; have h1 := h; clear h
  rcases Nat.lt_or_ge I 173 with h | h
  · exact rows2_spec r2A67 (by omega) (by omega) (by omega)
  clear h1; have h1 := h; clear h
  rcases Nat.lt_or_ge I 175 with h | h
  · exact rows2_spec r2A68 (by omega) (by omega) (by omega)
  clear h1; have h1 := h; clear h
  rcases Nat.lt_or_ge I 177 with h | h
  · exact rows2_spec r2A69 (by omega) (by omega) (by omega)
  clear h1; have h1 := h; clear h
  rcases Nat.lt_or_ge I 179 with h | h
  · exact rows2_spec r2A70 (by omega) (by omega) (by omega)
  clear h1; have h1 := h; clear h
  rcases Nat.lt_or_ge I 181 with h | h
  · exact rows2_spec r2A71 (by omega) (by omega) (by omega)
  clear h1; have h1 := h; clear h
  rcases Nat.lt_or_ge I 183 with h | h
  · exact rows2_spec r2A72 (by omega) (by omega) (by omega)
  clear h1; have h1 := h; clear h
  rcases Nat.lt_or_ge I 185 with h | h
  · exact rows2_spec r2A73 (by omega) (by omega) (by omega)
  clear h1; have h1 := h; clear h
  rcases Nat.lt_or_ge I 187 with h | h
  · exact rows2_spec r2A74 (by omega) (by omega) (by omega)
  clear h1; have h1 := h; clear h
  rcases Nat.lt_or_ge I 189 with h | h
  · exact rows2_spec r2A75 (by omega) (by omega) (by omega)
  clear h1; have h1 := h; clear h
  rcases Nat.lt_or_ge I 191 with h | h
  · exact rows2_spec r2A76 (by omega) (by omega) (by omega)
  clear h1; have h1 := h; clear h
  rcases Nat.lt_or_ge I 193 with h | h
  · exact rows2_spec r2A77 (by omega) (by omega) (by omega)
  clear h1; have h1 := h; clear h
  rcases Nat.lt_or_ge I 195 with h | h
  · exact rows2_spec r2A78 (by omega) (by omega) (by omega)
  clear h1; have h1 := h; clear h
  rcases Nat.lt_or_ge I 197 with h | h
  · exact rows2_spec r2A79 (by omega) (by omega) (by omega)
  clear h1; have h1 := h; clear h
  rcases Nat.lt_or_ge I 199 with h | h
  · exact rows2_spec r2A80 (by omega) (by omega) (by omega)
  clear h1; have h1 := h; clear h
  rcases Nat.lt_or_ge I 201 with h | h
  · exact rows2_spec r2A81 (by omega) (by omega) (by omega)
  clear h1; have h1 := h; clear h
  rcases Nat.lt_or_ge I 203 with h | h
  · exact rows2_spec r2A82 (by omega) (by omega) (by omega)
  clear h1; have h1 := h; clear h
  rcases Nat.lt_or_ge I 205 with h | h
  · exact rows2_spec r2A83 (by omega) (by omega) (by omega)
  clear h1; have h1 := h; clear h
  rcases Nat.lt_or_ge I 207 with h | h
  · exact rows2_spec r2A84 (by omega) (by omega) (by omega)
  clear h1; have h1 := h; clear h
  rcases Nat.lt_or_ge I 209 with h | h
  · exact rows2_spec r2A85 (by omega) (by omega) (by omega)
  clear h1; have h1 := h; clear h
  rcases Nat.lt_or_ge I 211 with h | h
  · exact rows2_spec r2A86 (by omega) (by omega) (by omega)
  clear h1; have h1 := h; clear h
  rcases Nat.lt_or_ge I 213 with h | h
  · exact rows2_spec r2A87 (by omega) (by omega) (by omega)
  clear h1; have h1 := h; clear h
  rcases Nat.lt_or_ge I 215 with h | h
  · exact rows2_spec r2A88 (by omega) (by omega) (by omega)
  clear h1; have h1 := h; clear h
  exact rows2_spec r2A89 (by omega) (by omega) (by omega)
end Go.Proofs.YtpphfeinmmmckaaDoor
