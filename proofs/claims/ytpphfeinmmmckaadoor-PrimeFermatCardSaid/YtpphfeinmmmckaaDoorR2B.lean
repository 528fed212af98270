/-
  Plain: rows of the sieve for two primes beyond the first rows, I from 217 to 390: reckoned by the kernel (row2gen.py prints this text).
-/
import Derived.Test.YtpphfeinmmmckaaDoorMRow2
namespace Go.Proofs.YtpphfeinmmmckaaDoor
set_option maxRecDepth 100000
theorem r2B0 : rows2 217 1 = true := by decide +kernel
theorem r2B1 : rows2 219 1 = true := by decide +kernel
theorem r2B2 : rows2 221 1 = true := by decide +kernel
theorem r2B3 : rows2 223 1 = true := by decide +kernel
theorem r2B4 : rows2 225 1 = true := by decide +kernel
theorem r2B5 : rows2 227 1 = true := by decide +kernel
theorem r2B6 : rows2 229 1 = true := by decide +kernel
theorem r2B7 : rows2 231 1 = true := by decide +kernel
theorem r2B8 : rows2 233 1 = true := by decide +kernel
theorem r2B9 : rows2 235 1 = true := by decide +kernel
theorem r2B10 : rows2 237 1 = true := by decide +kernel
theorem r2B11 : rows2 239 1 = true := by decide +kernel
theorem r2B12 : rows2 241 1 = true := by decide +kernel
theorem r2B13 : rows2 243 1 = true := by decide +kernel
theorem r2B14 : rows2 245 1 = true := by decide +kernel
theorem r2B15 : rows2 247 1 = true := by decide +kernel
theorem r2B16 : rows2 249 1 = true := by decide +kernel
theorem r2B17 : rows2 251 1 = true := by decide +kernel
theorem r2B18 : rows2 253 1 = true := by decide +kernel
theorem r2B19 : rows2 255 1 = true := by decide +kernel
theorem r2B20 : rows2 257 1 = true := by decide +kernel
theorem r2B21 : rows2 259 1 = true := by decide +kernel
theorem r2B22 : rows2 261 1 = true := by decide +kernel
theorem r2B23 : rows2 263 1 = true := by decide +kernel
theorem r2B24 : rows2 265 1 = true := by decide +kernel
theorem r2B25 : rows2 267 1 = true := by decide +kernel
theorem r2B26 : rows2 269 1 = true := by decide +kernel
theorem r2B27 : rows2 271 1 = true := by decide +kernel
theorem r2B28 : rows2 273 1 = true := by decide +kernel
theorem r2B29 : rows2 275 1 = true := by decide +kernel
theorem r2B30 : rows2 277 1 = true := by decide +kernel
theorem r2B31 : rows2 279 1 = true := by decide +kernel
theorem r2B32 : rows2 281 1 = true := by decide +kernel
theorem r2B33 : rows2 283 1 = true := by decide +kernel
theorem r2B34 : rows2 285 1 = true := by decide +kernel
theorem r2B35 : rows2 287 1 = true := by decide +kernel
theorem r2B36 : rows2 289 1 = true := by decide +kernel
theorem r2B37 : rows2 291 1 = true := by decide +kernel
theorem r2B38 : rows2 293 1 = true := by decide +kernel
theorem r2B39 : rows2 295 1 = true := by decide +kernel
theorem r2B40 : rows2 297 1 = true := by decide +kernel
theorem r2B41 : rows2 299 1 = true := by decide +kernel
theorem r2B42 : rows2 301 1 = true := by decide +kernel
theorem r2B43 : rows2 303 1 = true := by decide +kernel
theorem r2B44 : rows2 305 1 = true := by decide +kernel
theorem r2B45 : rows2 307 1 = true := by decide +kernel
theorem r2B46 : rows2 309 1 = true := by decide +kernel
theorem r2B47 : rows2 311 1 = true := by decide +kernel
theorem r2B48 : rows2 313 1 = true := by decide +kernel
theorem r2B49 : rows2 315 1 = true := by decide +kernel
theorem r2B50 : rows2 317 1 = true := by decide +kernel
theorem r2B51 : rows2 319 1 = true := by decide +kernel
theorem r2B52 : rows2 321 1 = true := by decide +kernel
theorem r2B53 : rows2 323 1 = true := by decide +kernel
theorem r2B54 : rows2 325 1 = true := by decide +kernel
theorem r2B55 : rows2 327 1 = true := by decide +kernel
theorem r2B56 : rows2 329 1 = true := by decide +kernel
theorem r2B57 : rows2 331 1 = true := by decide +kernel
theorem r2B58 : rows2 333 1 = true := by decide +kernel
theorem r2B59 : rows2 335 1 = true := by decide +kernel
theorem r2B60 : rows2 337 1 = true := by decide +kernel
theorem r2B61 : rows2 339 1 = true := by decide +kernel
theorem r2B62 : rows2 341 1 = true := by decide +kernel
theorem r2B63 : rows2 343 1 = true := by decide +kernel
theorem r2B64 : rows2 345 1 = true := by decide +kernel
theorem r2B65 : rows2 347 1 = true := by decide +kernel
theorem r2B66 : rows2 349 1 = true := by decide +kernel
theorem r2B67 : rows2 351 1 = true := by decide +kernel
theorem r2B68 : rows2 353 1 = true := by decide +kernel
theorem r2B69 : rows2 355 1 = true := by decide +kernel
theorem r2B70 : rows2 357 1 = true := by decide +kernel
theorem r2B71 : rows2 359 1 = true := by decide +kernel
theorem r2B72 : rows2 361 1 = true := by decide +kernel
theorem r2B73 : rows2 363 1 = true := by decide +kernel
theorem r2B74 : rows2 365 1 = true := by decide +kernel
theorem r2B75 : rows2 367 1 = true := by decide +kernel
theorem r2B76 : rows2 369 1 = true := by decide +kernel
theorem r2B77 : rows2 371 1 = true := by decide +kernel
theorem r2B78 : rows2 373 1 = true := by decide +kernel
theorem r2B79 : rows2 375 1 = true := by decide +kernel
theorem r2B80 : rows2 377 1 = true := by decide +kernel
theorem r2B81 : rows2 379 1 = true := by decide +kernel
theorem r2B82 : rows2 381 1 = true := by decide +kernel
theorem r2B83 : rows2 383 1 = true := by decide +kernel
theorem r2B84 : rows2 385 1 = true := by decide +kernel
theorem r2B85 : rows2 387 1 = true := by decide +kernel
theorem r2B86 : rows2 389 1 = true := by decide +kernel
theorem r2B (I : Nat) (ho : I % 2 = 1) (h1 : 217 ≤ I) (h2 : I < 391) : row2 I = true := by
  rcases Nat.lt_or_ge I 219 with h | h
  · exact rows2_spec r2B0 (by omega) (by omega) (by omega)
  clear h1; have h1 := h; clear h
  rcases Nat.lt_or_ge I 221 with h | h
  · exact rows2_spec r2B1 (by omega) (by omega) (by omega)
  clear h1; have h1 := h; clear h
  rcases Nat.lt_or_ge I 223 with h | h
  · exact rows2_spec r2B2 (by omega) (by omega) (by omega)
  clear h1; have h1 := h; clear h
  rcases Nat.lt_or_ge I 225 with h | h
  · exact rows2_spec r2B3 (by omega) (by omega) (by omega)
  clear h1; have h1 := h; clear h
  rcases Nat.lt_or_ge I 227 with h | h
  · exact rows2_spec r2B4 (by omega) (by omega) (by omega)
  clear h1; have h1 := h; clear h
  rcases Nat.lt_or_ge I 229 with h | h
  · exact rows2_spec r2B5 (by omega) (by omega) (by omega)
  clear h1; have h1 := h; clear h
  rcases Nat.lt_or_ge I 231 with h | h
  · exact rows2_spec r2B6 (by omega) (by omega) (by omega)
  clear h1; have h1 := h; clear h
  rcases Nat.lt_or_ge I 233 with h | h
  · exact rows2_spec r2B7 (by omega) (by omega) (by omega)
  clear h1; have h1 := h; clear h
  rcases Nat.lt_or_ge I 235 with h | h
  · exact rows2_spec r2B8 (by omega) (by omega) (by omega)
  clear h1; have h1 := h; clear h
  rcases Nat.lt_or_ge I 237 with h | h
  · exact rows2_spec r2B9 (by omega) (by omega) (by omega)
  clear h1; have h1 := h; clear h
  rcases Nat.lt_or_ge I 239 with h | h
  · exact rows2_spec r2B10 (by omega) (by omega) (by omega)
  clear h1; have h1 := h; clear h
  rcases Nat.lt_or_ge I 241 with h | h
  · exact rows2_spec r2B11 (by omega) (by omega) (by omega)
  clear h1; have h1 := h; clear h
  rcases Nat.lt_or_ge I 243 with h | h
  · exact rows2_spec r2B12 (by omega) (by omega) (by omega)
  clear h1; have h1 := h; clear h
  rcases Nat.lt_or_ge I 245 with h | h
  · exact rows2_spec r2B13 (by omega) (by omega) (by omega)
  clear h1; have h1 := h; clear h
  rcases Nat.lt_or_ge I 247 with h | h
  · exact rows2_spec r2B14 (by omega) (by omega) (by omega)
  clear h1; have h1 := h; clear h
  rcases Nat.lt_or_ge I 249 with h | h
  · exact rows2_spec r2B15 (by omega) (by omega) (by omega)
  clear h1; have h1 := h; clear h
  rcases Nat.lt_or_ge I 251 with h | h
  · exact rows2_spec r2B16 (by omega) (by omega) (by omega)
  clear h1; have h1 := h; clear h
  rcases Nat.lt_or_ge I 253 with h | h
  · exact rows2_spec r2B17 (by omega) (by omega) (by omega)
  clear h1; have h1 := h; clear h
  rcases Nat.lt_or_ge I 255 with h | h
  · exact rows2_spec r2B18 (by omega) (by omega) (by omega)
  clear h1; have h1 := h; clear h
  rcases Nat.lt_or_ge I 257 with h | h
  · exact rows2_spec r2B19 (by omega) (by omega) (by omega)
  clear h1; have h1 := h; clear h
  rcases Nat.lt_or_ge I 259 with h | h
  · exact rows2_spec r2B20 (by omega) (by omega) (by omega)
  clear h1; have h1 := h; clear h
  rcases Nat.lt_or_ge I 261 with h | h
  · exact rows2_spec r2B21 (by omega) (by omega) (by omega)
  clear h1; have h1 := h; clear h
  rcases Nat.lt_or_ge I 263 with h | h
  · exact rows2_spec r2B22 (by omega) (by omega) (by omega)
  clear h1; have h1 := h; clear h
  rcases Nat.lt_or_ge I 265 with h | h
  · exact rows2_spec r2B23 (by omega) (by omega) (by omega)
  clear h1; have h1 := h; clear h
  rcases Nat.lt_or_ge I 267 with h | h
  · exact rows2_spec r2B24 (by omega) (by omega) (by omega)
  clear h1; have h1 := h; clear h
  rcases Nat.lt_or_ge I 269 with h | h
  · exact rows2_spec r2B25 (by omega) (by omega) (by omega)
  clear h1; have h1 := h; clear h
  rcases Nat.lt_or_ge I 271 with h | h
  · exact rows2_spec r2B26 (by omega) (by omega) (by omega)
  clear h1; have h1 := h; clear h
  rcases Nat.lt_or_ge I 273 with h | h
  · exact rows2_spec r2B27 (by omega) (by omega) (by omega)
  clear h1; have h1 := h; clear h
  rcases Nat.lt_or_ge I 275 with h | h
  · exact rows2_spec r2B28 (by omega) (by omega) (by omega)
  clear h1; have h1 := h; clear h
  rcases Nat.lt_or_ge I 277 with h | h
  · exact rows2_spec r2B29 (by omega) (by omega) (by omega)
  clear h1; have h1 := h; clear h
  rcases Nat.lt_or_ge I 279 with h | h
  · exact rows2_spec r2B30 (by omega) (by omega) (by omega)
  clear h1; have h1 := h; clear h
  rcases Nat.lt_or_ge I 281 with h | h
  · exact rows2_spec r2B31 (by omega) (by omega) (by omega)
  clear h1; have h1 := h; clear h
  rcases Nat.lt_or_ge I 283 with h | h
  · exact rows2_spec r2B32 (by omega) (by omega) (by omega)
  clear h1; have h1 := h; clear h
  rcases Nat.lt_or_ge I 285 with h | h
  · exact rows2_spec r2B33 (by omega) (by omega) (by omega)
  clear h1; have h1 := h; clear h
  rcases Nat.lt_or_ge I 287 with h | h
  · exact rows2_spec r2B34 (by omega) (by omega) (by omega)
  clear h1; have h1 := h; clear h
  rcases Nat.lt_or_ge I 289 with h | h
  · exact rows2_spec r2B35 (by omega) (by omega) (by omega)
  clear h1; have h1 := h; clear h
  rcases Nat.lt_or_ge I 291 with h | h
  · exact rows2_spec r2B36 (by omega) (by omega) (by omega)
  clear h1; have h1 := h; clear h
  rcases Nat.lt_or_ge I 293 with h | h
  · exact rows2_spec r2B37 (by omega) (by omega) (by omega)
  clear h1; have h1 := h; clear h
  rcases Nat.lt_or_ge I 295 with h | h
  · exact rows2_spec r2B38 (by omega) (by omega) (by omega)
  clear h1; have h1 := h; clear h
  rcases Nat.lt_or_ge I 297 with h | h
  · exact rows2_spec r2B39 (by omega) (by omega) (by omega)
  clear h1; have h1 := h; clear h
  rcases Nat.lt_or_ge I 299 with h | h
  · exact rows2_spec r2B40 (by omega) (by omega) (by omega)
  clear h1; have h1 := h; clear h
  rcases Nat.lt_or_ge I 301 with h | h
  · exact rows2_spec r2B41 (by omega) (by omega) (by omega)
  clear h1; have h1 := h; clear h
  rcases Nat.lt_or_ge I 303 with h | h
  · exact rows2_spec r2B42 (by omega) (by omega) (by omega)
  clear h1; have h1 := h; clear h
  rcases Nat.lt_or_ge I 305 with h | h
  · exact rows2_spec r2B43 (by omega) (by omega) (by omega)
  clear h1; have h1 := h; clear h
  rcases Nat.lt_or_ge I 307 with h | h
  · exact rows2_spec r2B44 (by omega) (by omega) (by omega)
  clear h1; have h1 := h; clear h
  rcases Nat.lt_or_ge I 309 with h | h
  · exact rows2_spec r2B45 (by omega) (by omega) (by omega)
  clear h1; have h1 := h; clear h
  rcases Nat.lt_or_ge I 311 with h | h
  · exact rows2_spec r2B46 (by omega) (by omega) (by omega)
  clear h1; have h1 := h; clear h
  rcases Nat.lt_or_ge I 313 with h | h
  · exact rows2_spec r2B47 (by omega) (by omega) (by omega)
  clear h1; have h1 := h; clear h
  rcases Nat.lt_or_ge I 315 with h | h
  · exact rows2_spec r2B48 (by omega) (by omega) (by omega)
  clear h1; have h1 := h; clear h
  rcases Nat.lt_or_ge I 317 with h | h
  · exact rows2_spec r2B49 (by omega) (by omega) (by omega)
  clear h1; have h1 := h; clear h
  rcases Nat.lt_or_ge I 319 with h | h
  · exact rows2_spec r2B50 (by omega) (by omega) (by omega)
  clear h1; have h1 := h; clear h
  rcases Nat.lt_or_ge I 321 with h | h
  · exact rows2_spec r2B51 (by omega) (by omega) (by omega)
  clear h1; have h1 := h; clear h
  rcases Nat.lt_or_ge I 323 with h | h
  · exact rows2_spec r2B52 (by omega) (by omega) (by omega)
  clear h1; have h1 := h; clear h
  rcases Nat.lt_or_ge I 325 with h | h
  · exact rows2_spec r2B53 (by omega) (by omega) (by omega)
  clear h1; have h1 := h; clear h
  rcases Nat.lt_or_ge I 327 with h | h
  · exact rows2_spec r2B54 (by omega) (by omega) (by omega)
  clear h1; have h1 := h; clear h
  rcases Nat.lt_or_ge I 329 with h | h
  · exact rows2_spec r2B55 (by omega) (by omega) (by omega)
  clear h1; have h1 := h; clear h
  rcases Nat.lt_or_ge I 331 with h | h
  · exact rows2_spec r2B56 (by omega) (by omega) (by omega)
  clear h1; have h1 := h; clear h
  rcases Nat.lt_or_ge I 333 with h | h
  · exact rows2_spec r2B57 (by omega) (by omega) (by omega)
  clear h1; have h1 := h; clear h
  rcases Nat.lt_or_ge I 335 with h | h
  · exact rows2_spec r2B58 (by omega) (by omega) (by omega)
  clear h1; have h1 := h; clear h
  rcases Nat.lt_or_ge I 337 with h | h
  · exact rows2_spec r2B59 (by omega) (by omega) (by omega)
  clear h1; have h1 := h; clear h
  rcases Nat.lt_or_ge I 339 with h | h
  · exact rows2_spec r2B60 (by omega) (by omega) (by omega)
  clear h1; have h1 := h; clear h
  rcases Nat.lt_or_ge I 341 with h | h
  · exact rows2_spec r2B61 (by omega) (by omega) (by omega)
  clear h1; have h1 := h; clear h
  rcases Nat.lt_or_ge I 343 with h | h
  · exact rows2_spec r2B62 (by omega) (by omega) (by omega)
  clear h1; have h1 := h; clear h
  rcases Nat.lt_or_ge I 345 with h | h
  · exact rows2_spec r2B63 (by omega) (by omega) (by omega)
  clear h1; have h1 := h; clear h
  rcases Nat.lt_or_ge I 347 with h | h
  · exact rows2_spec r2B64 (by omega) (by omega) (by omega)
  clear h1; have h1 := h; clear h
  rcases Nat.lt_or_ge I 349 with h | h
  · exact rows2_spec r2B65 (by omega) (by omega) (by omega)
  clear h1; have h1 := h; clear h
  rcases Nat.lt_or_ge I 351 with h | h
  · exact rows2_spec r2B66 (by omega) (by omega) (by omega)
  clear h1; have h1 := h; clear h
  rcases Nat.lt_or_ge I 353 with h | h
  · exact rows2_spec r2B67 (by omega) (by omega) (by omega)
  clear h1; have h1 := h; clear h
  rcases Nat.lt_or_ge I 355 with h | h
  · exact rows2_spec r2B68 (by omega) (by omega) (by omega)
  clear h1; have h1 := h; clear h
  rcases Nat.lt_or_ge I 357 with h | h
  · exact rows2_spec r2B69 (by omega) (by omega) (by omega)
  clear h1; have h1 := h; clear h
  rcases Nat.lt_or_ge I 359 with h | h
  · exact rows2_spec r2B70 (by omega) (by omega) (by omega)
  clear h1; have h1 := h; clear h
  rcases Nat.lt_or_ge I 361 with h | h
  · exact rows2_spec r2B71 (by omega) (by omega) (by omega)
  clear h1; have h1 := h; clear h
  rcases Nat.lt_or_ge I 363 with h | h
  · exact rows2_spec r2B72 (by omega) (by omega) (by omega)
  clear h1; have h1 := h; clear h
  rcases Nat.lt_or_ge I 365 with h | h
  · exact rows2_spec r2B73 (by omega) (by omega) (by omega)
  clear h1; have h1 := h; clear h
  rcases Nat.lt_or_ge I 367 with h | h
  · exact rows2_spec r2B74 (by omega) (by omega) (by omega)
  clear h1; have h1 := h; clear h
  rcases Nat.lt_or_ge I 369 with h | h
  · exact rows2_spec r2B75 (by omega) (by omega) (by omega)
  clear h1; have h1 := h; clear h
  rcases Nat.lt_or_ge I 371 with h | h
  · exact rows2_spec r2B76 (by omega) (by omega) (by omega)
  clear h1; have h1 := h; clear h
  rcases Nat.lt_or_ge I 373 with h | h
  · exact rows2_spec r2B77 (by omega) (by omega) (by omega)
  clear h1; have h1 := h; clear h
  rcases Nat.lt_or_ge I 375 with h | h
  · exact rows2_spec r2B78 (by omega) (by omega) (by omega)
  clear h1; have h1 := h; clear h
  rcases Nat.lt_or_ge I 377 with h | h
  · exact rows2_spec r2B79 (by omega) (by omega) (by omega)
  clear h1; have h1 := h; clear h
  rcases Nat.lt_or_ge I 379 with h | h
  · exact rows2_spec r2B80 (by omega) (by omega) (by omega)
  clear h1; have h1 := h; clear h
  rcases Nat.lt_or_ge I 381 with h | h
  · exact rows2_spec r2B81 (by omega) (by omega) (by omega)
  clear h1; have h1 := h; clear h
  rcases Nat.lt_or_ge I 383 with h | h
  · exact rows2_spec r2B82 (by omega) (by omega) (by omega)
  clear h1; have h1 := h; clear h
  rcases Nat.lt_or_ge I 385 with h | h
  · exact rows2_spec r2B83 (by omega) (by omega) (by omega)
  clear h1; have h1 := h; clear h
  rcases Nat.lt_or_ge I 387 with h | h
  · exact rows2_spec r2B84 (by omega) (by omega) (by omega)
  clear h1; have h1 := h; clear h
  rcases Nat.lt_or_ge I 389 with h | h
  · exact rows2_spec r2B85 (by omega) (by omega) (by omega)
  clear h1; have h1 := h; clear h
  exact rows2_spec r2B86 (by omega) (by omega) (by omega)
end Go.Proofs.YtpphfeinmmmckaaDoor
