/-
  Plain: rows of the sieve for two primes, I from 105 to 209: reckoned by the kernel (rowgen.py prints this text).
-/
import Derived.Test.YtpphfeinmmmckaaDoorMRow
namespace Go.Proofs.YtpphfeinmmmckaaDoor
set_option maxRecDepth 100000
theorem row105 : row 4294967296 2147483648 105 = true := by decide +kernel
theorem row107 : row 4294967296 2147483648 107 = true := by decide +kernel
theorem row109 : row 4294967296 2147483648 109 = true := by decide +kernel
theorem row111 : row 4294967296 2147483648 111 = true := by decide +kernel
theorem row113 : row 4294967296 2147483648 113 = true := by decide +kernel
theorem row115 : row 4294967296 2147483648 115 = true := by decide +kernel
theorem row117 : row 4294967296 2147483648 117 = true := by decide +kernel
theorem row119 : row 4294967296 2147483648 119 = true := by decide +kernel
theorem row121 : row 4294967296 2147483648 121 = true := by decide +kernel
theorem row123 : row 4294967296 2147483648 123 = true := by decide +kernel
theorem row125 : row 4294967296 2147483648 125 = true := by decide +kernel
theorem row127 : row 4294967296 2147483648 127 = true := by decide +kernel
theorem row129 : row 4294967296 2147483648 129 = true := by decide +kernel
theorem row131 : row 4294967296 2147483648 131 = true := by decide +kernel
theorem row133 : row 4294967296 2147483648 133 = true := by decide +kernel
theorem row135 : row 4294967296 2147483648 135 = true := by decide +kernel
theorem row137 : row 4294967296 2147483648 137 = true := by decide +kernel
theorem row139 : row 4294967296 2147483648 139 = true := by decide +kernel
theorem row141 : row 4294967296 2147483648 141 = true := by decide +kernel
theorem row143 : row 4294967296 2147483648 143 = true := by decide +kernel
theorem row145 : row 4294967296 2147483648 145 = true := by decide +kernel
theorem row147 : row 4294967296 2147483648 147 = true := by decide +kernel
theorem row149 : row 4294967296 2147483648 149 = true := by decide +kernel
theorem row151 : row 4294967296 2147483648 151 = true := by decide +kernel
theorem row153 : row 4294967296 2147483648 153 = true := by decide +kernel
theorem row155 : row 4294967296 2147483648 155 = true := by decide +kernel
theorem row157 : row 4294967296 2147483648 157 = true := by decide +kernel
theorem row159 : row 4294967296 2147483648 159 = true := by decide +kernel
theorem row161 : row 4294967296 2147483648 161 = true := by decide +kernel
theorem row163 : row 4294967296 2147483648 163 = true := by decide +kernel
theorem row165 : row 4294967296 2147483648 165 = true := by decide +kernel
theorem row167 : row 4294967296 2147483648 167 = true := by decide +kernel
theorem row169 : row 4294967296 2147483648 169 = true := by decide +kernel
theorem row171 : row 4294967296 2147483648 171 = true := by decide +kernel
theorem row173 : row 4294967296 2147483648 173 = true := by decide +kernel
theorem row175 : row 4294967296 2147483648 175 = true := by decide +kernel
theorem row177 : row 4294967296 2147483648 177 = true := by decide +kernel
theorem row179 : row 4294967296 2147483648 179 = true := by decide +kernel
theorem row181 : row 4294967296 2147483648 181 = true := by decide +kernel
theorem row183 : row 4294967296 2147483648 183 = true := by decide +kernel
theorem row185 : row 4294967296 2147483648 185 = true := by decide +kernel
theorem row187 : row 4294967296 2147483648 187 = true := by decide +kernel
theorem row189 : row 4294967296 2147483648 189 = true := by decide +kernel
theorem row191 : row 4294967296 2147483648 191 = true := by decide +kernel
theorem row193 : row 4294967296 2147483648 193 = true := by decide +kernel
theorem row195 : row 4294967296 2147483648 195 = true := by decide +kernel
theorem row197 : row 4294967296 2147483648 197 = true := by decide +kernel
theorem row199 : row 4294967296 2147483648 199 = true := by decide +kernel
theorem row201 : row 4294967296 2147483648 201 = true := by decide +kernel
theorem row203 : row 4294967296 2147483648 203 = true := by decide +kernel
theorem row205 : row 4294967296 2147483648 205 = true := by decide +kernel
theorem row207 : row 4294967296 2147483648 207 = true := by decide +kernel
theorem row209 : row 4294967296 2147483648 209 = true := by decide +kernel
theorem rwB : ∀ t, t < 53 → row 4294967296 2147483648 (105 + 2 * t) = true
  | 0, _ => row105
  | 1, _ => row107
  | 2, _ => row109
  | 3, _ => row111
  | 4, _ => row113
  | 5, _ => row115
  | 6, _ => row117
  | 7, _ => row119
  | 8, _ => row121
  | 9, _ => row123
  | 10, _ => row125
  | 11, _ => row127
  | 12, _ => row129
  | 13, _ => row131
  | 14, _ => row133
  | 15, _ => row135
  | 16, _ => row137
  | 17, _ => row139
  | 18, _ => row141
  | 19, _ => row143
  | 20, _ => row145
  | 21, _ => row147
  | 22, _ => row149
  | 23, _ => row151
  | 24, _ => row153
  | 25, _ => row155
  | 26, _ => row157
  | 27, _ => row159
  | 28, _ => row161
  | 29, _ => row163
  | 30, _ => row165
  | 31, _ => row167
  | 32, _ => row169
  | 33, _ => row171
  | 34, _ => row173
  | 35, _ => row175
  | 36, _ => row177
  | 37, _ => row179
  | 38, _ => row181
  | 39, _ => row183
  | 40, _ => row185
  | 41, _ => row187
  | 42, _ => row189
  | 43, _ => row191
  | 44, _ => row193
  | 45, _ => row195
  | 46, _ => row197
  | 47, _ => row199
  | 48, _ => row201
  | 49, _ => row203
  | 50, _ => row205
  | 51, _ => row207
  | 52, _ => row209
  | t + 53, h => absurd h (by omega)
end Go.Proofs.YtpphfeinmmmckaaDoor
