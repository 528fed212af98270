/-
  Plain: rows of the sieve for two primes, I from 211 to 335: reckoned by the kernel (rowgen.py prints this text).
-/
import Derived.Test.YtpphfeinmmmckaaDoorMRow
namespace Go.Proofs.YtpphfeinmmmckaaDoor
set_option maxRecDepth 100000
theorem row211 : row 4294967296 2147483648 211 = true := by decide +kernel
theorem row213 : row 4294967296 2147483648 213 = true := by decide +kernel
theorem row215 : row 4294967296 2147483648 215 = true := by decide +kernel
theorem row217 : row 4294967296 2147483648 217 = true := by decide +kernel
theorem row219 : row 4294967296 2147483648 219 = true := by decide +kernel
theorem row221 : row 4294967296 2147483648 221 = true := by decide +kernel
theorem row223 : row 4294967296 2147483648 223 = true := by decide +kernel
theorem row225 : row 4294967296 2147483648 225 = true := by decide +kernel
theorem row227 : row 4294967296 2147483648 227 = true := by decide +kernel
theorem row229 : row 4294967296 2147483648 229 = true := by decide +kernel
theorem row231 : row 4294967296 2147483648 231 = true := by decide +kernel
theorem row233 : row 4294967296 2147483648 233 = true := by decide +kernel
theorem row235 : row 4294967296 2147483648 235 = true := by decide +kernel
theorem row237 : row 4294967296 2147483648 237 = true := by decide +kernel
theorem row239 : row 4294967296 2147483648 239 = true := by decide +kernel
theorem row241 : row 4294967296 2147483648 241 = true := by decide +kernel
theorem row243 : row 4294967296 2147483648 243 = true := by decide +kernel
theorem row245 : row 4294967296 2147483648 245 = true := by decide +kernel
theorem row247 : row 4294967296 2147483648 247 = true := by decide +kernel
theorem row249 : row 4294967296 2147483648 249 = true := by decide +kernel
theorem row251 : row 4294967296 2147483648 251 = true := by decide +kernel
theorem row253 : row 4294967296 2147483648 253 = true := by decide +kernel
theorem row255 : row 4294967296 2147483648 255 = true := by decide +kernel
theorem row257 : row 4294967296 2147483648 257 = true := by decide +kernel
theorem row259 : row 4294967296 2147483648 259 = true := by decide +kernel
theorem row261 : row 4294967296 2147483648 261 = true := by decide +kernel
theorem row263 : row 4294967296 2147483648 263 = true := by decide +kernel
theorem row265 : row 4294967296 2147483648 265 = true := by decide +kernel
theorem row267 : row 4294967296 2147483648 267 = true := by decide +kernel
theorem row269 : row 4294967296 2147483648 269 = true := by decide +kernel
theorem row271 : row 4294967296 2147483648 271 = true := by decide +kernel
theorem row273 : row 4294967296 2147483648 273 = true := by decide +kernel
theorem row275 : row 4294967296 2147483648 275 = true := by decide +kernel
theorem row277 : row 4294967296 2147483648 277 = true := by decide +kernel
theorem row279 : row 4294967296 2147483648 279 = true := by decide +kernel
theorem row281 : row 4294967296 2147483648 281 = true := by decide +kernel
theorem row283 : row 4294967296 2147483648 283 = true := by decide +kernel
theorem row285 : row 4294967296 2147483648 285 = true := by decide +kernel
theorem row287 : row 4294967296 2147483648 287 = true := by decide +kernel
theorem row289 : row 4294967296 2147483648 289 = true := by decide +kernel
theorem row291 : row 4294967296 2147483648 291 = true := by decide +kernel
theorem row293 : row 4294967296 2147483648 293 = true := by decide +kernel
theorem row295 : row 4294967296 2147483648 295 = true := by decide +kernel
theorem row297 : row 4294967296 2147483648 297 = true := by decide +kernel
theorem row299 : row 4294967296 2147483648 299 = true := by decide +kernel
theorem row301 : row 4294967296 2147483648 301 = true := by decide +kernel
theorem row303 : row 4294967296 2147483648 303 = true := by decide +kernel
theorem row305 : row 4294967296 2147483648 305 = true := by decide +kernel
theorem row307 : row 4294967296 2147483648 307 = true := by decide +kernel
theorem row309 : row 4294967296 2147483648 309 = true := by decide +kernel
theorem row311 : row 4294967296 2147483648 311 = true := by decide +kernel
theorem row313 : row 4294967296 2147483648 313 = true := by decide +kernel
theorem row315 : row 4294967296 2147483648 315 = true := by decide +kernel
theorem row317 : row 4294967296 2147483648 317 = true := by decide +kernel
theorem row319 : row 4294967296 2147483648 319 = true := by decide +kernel
theorem row321 : row 4294967296 2147483648 321 = true := by decide +kernel
theorem row323 : row 4294967296 2147483648 323 = true := by decide +kernel
theorem row325 : row 4294967296 2147483648 325 = true := by decide +kernel
theorem row327 : row 4294967296 2147483648 327 = true := by decide +kernel
theorem row329 : row 4294967296 2147483648 329 = true := by decide +kernel
theorem row331 : row 4294967296 2147483648 331 = true := by decide +kernel
theorem row333 : row 4294967296 2147483648 333 = true := by decide +kernel
theorem row335 : row 4294967296 2147483648 335 = true := by decide +kernel
theorem rwC : ∀ t, t < 63 → row 4294967296 2147483648 (211 + 2 * t) = true
  | 0, _ => row211
  | 1, _ => row213
  | 2, _ => row215
  | 3, _ => row217
  | 4, _ => row219
  | 5, _ => row221
  | 6, _ => row223
  | 7, _ => row225
  | 8, _ => row227
  | 9, _ => row229
  | 10, _ => row231
  | 11, _ => row233
  | 12, _ => row235
  | 13, _ => row237
  | 14, _ => row239
  | 15, _ => row241
  | 16, _ => row243
  | 17, _ => row245
  | 18, _ => row247
  | 19, _ => row249
  | 20, _ => row251
  | 21, _ => row253
  | 22, _ => row255
  | 23, _ => row257
  | 24, _ => row259
  | 25, _ => row261
  | 26, _ => row263
  | 27, _ => row265
  | 28, _ => row267
  | 29, _ => row269
  | 30, _ => row271
  | 31, _ => row273
  | 32, _ => row275
  | 33, _ => row277
  | 34, _ => row279
  | 35, _ => row281
  | 36, _ => row283
  | 37, _ => row285
  | 38, _ => row287
  | 39, _ => row289
  | 40, _ => row291
  | 41, _ => row293
  | 42, _ => row295
  | 43, _ => row297
  | 44, _ => row299
  | 45, _ => row301
  | 46, _ => row303
  | 47, _ => row305
  | 48, _ => row307
  | 49, _ => row309
  | 50, _ => row311
  | 51, _ => row313
  | 52, _ => row315
  | 53, _ => row317
  | 54, _ => row319
  | 55, _ => row321
  | 56, _ => row323
  | 57, _ => row325
  | 58, _ => row327
  | 59, _ => row329
  | 60, _ => row331
  | 61, _ => row333
  | 62, _ => row335
  | t + 63, h => absurd h (by omega)
end Go.Proofs.YtpphfeinmmmckaaDoor
