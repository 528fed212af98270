/-
  Plain: the table of least exponents, by program (thrgen.py); each row counted by the kernel.
-/
import Derived.Test.YtpphfeinmmmckaaDoorThr
namespace Go.Proofs.YtpphfeinmmmckaaDoor
set_option maxRecDepth 100000
theorem thr0 : thrOk 65536 181 15526 = true := by decide +kernel
theorem thr1 : thrOk 77935 197 17722 = true := by decide +kernel
theorem thr2 : thrOk 92681 215 19618 = true := by decide +kernel
theorem thr3 : thrOk 110217 234 22354 = true := by decide +kernel
theorem thr4 : thrOk 131072 256 25802 = true := by decide +kernel
theorem thr5 : thrOk 155871 279 28854 = true := by decide +kernel
theorem thr6 : thrOk 185363 304 32382 = true := by decide +kernel
theorem thr7 : thrOk 220435 331 35894 = true := by decide +kernel
theorem thr8 : thrOk 262144 362 41194 = true := by decide +kernel
theorem thr9 : thrOk 311743 394 46198 = true := by decide +kernel
theorem thr10 : thrOk 370727 430 51386 = true := by decide +kernel
theorem thr11 : thrOk 440871 469 57330 = true := by decide +kernel
theorem thr12 : thrOk 524288 512 64590 = true := by decide +kernel
theorem thr13 : thrOk 623487 558 72582 = true := by decide +kernel
theorem thr14 : thrOk 741455 608 80810 = true := by decide +kernel
theorem thr15 : thrOk 881743 663 89986 = true := by decide +kernel
theorem thr16 : thrOk 1048576 724 100606 = true := by decide +kernel
theorem thr17 : thrOk 1246974 789 111838 = true := by decide +kernel
theorem thr18 : thrOk 1482910 861 125538 = true := by decide +kernel
theorem thr19 : thrOk 1763487 939 139358 = true := by decide +kernel
theorem thr20 : thrOk 2097152 1024 154310 = true := by decide +kernel
theorem thr21 : thrOk 2493948 1116 170454 = true := by decide +kernel
theorem thr22 : thrOk 2965820 1217 187826 = true := by decide +kernel
theorem thr23 : thrOk 3526975 1327 205918 = true := by decide +kernel
theorem thr24 : thrOk 4194304 1448 227878 = true := by decide +kernel
theorem thr25 : thrOk 4987896 1579 250578 = true := by decide +kernel
theorem thr26 : thrOk 5931641 1722 275146 = true := by decide +kernel
theorem thr27 : thrOk 7053950 1878 302774 = true := by decide +kernel
theorem thr28 : thrOk 8388608 2048 333246 = true := by decide +kernel
theorem thr29 : thrOk 9975792 2233 366994 = true := by decide +kernel
theorem thr30 : thrOk 11863283 2435 403326 = true := by decide +kernel
theorem thr31 : thrOk 14107900 2655 441010 = true := by decide +kernel
theorem thr32 : thrOk 16777216 2896 489930 = true := by decide +kernel
theorem thr33 : thrOk 19951584 3158 532230 = true := by decide +kernel
theorem thr34 : thrOk 23726566 3444 584210 = true := by decide +kernel
theorem thr35 : thrOk 28215801 3756 643742 = true := by decide +kernel
theorem thr36 : thrOk 33554432 4096 701838 = true := by decide +kernel
theorem thr37 : thrOk 39903169 4466 780146 = true := by decide +kernel
theorem thr38 : thrOk 47453132 4870 854334 = true := by decide +kernel
theorem thr39 : thrOk 56431603 5311 931946 = true := by decide +kernel
theorem thr40 : thrOk 67108864 5792 1016786 = true := by decide +kernel
theorem thr41 : thrOk 79806338 6316 1116162 = true := by decide +kernel
theorem thr42 : thrOk 94906265 6888 1234818 = true := by decide +kernel
theorem thr43 : thrOk 112863206 7512 1340886 = true := by decide +kernel
theorem thr44 : thrOk 134217728 8192 1467030 = true := by decide +kernel
theorem thr45 : thrOk 159612677 8933 1588598 = true := by decide +kernel
theorem thr46 : thrOk 189812531 9741 1747094 = true := by decide +kernel
theorem thr47 : thrOk 225726412 10623 1899298 = true := by decide +kernel
theorem thr48 : thrOk 268435456 11585 2079386 = true := by decide +kernel
theorem thr49 : thrOk 319225354 12633 2272986 = true := by decide +kernel
theorem thr50 : thrOk 379625062 13777 2467610 = true := by decide +kernel
theorem thr51 : thrOk 451452825 15024 2689014 = true := by decide +kernel
theorem thr52 : thrOk 536870912 16384 2929934 = true := by decide +kernel
theorem thr53 : thrOk 638450708 17866 3180914 = true := by decide +kernel
theorem thr54 : thrOk 759250124 19483 3456906 = true := by decide +kernel
theorem thr55 : thrOk 902905650 21247 3752594 = true := by decide +kernel
theorem thr56 : thrOk 1073741824 23170 4060566 = true := by decide +kernel
theorem thr57 : thrOk 1276901416 25267 4407010 = true := by decide +kernel
theorem thr58 : thrOk 1518500249 27554 4784210 = true := by decide +kernel
theorem thr59 : thrOk 1805811301 30048 5179258 = true := by decide +kernel
theorem thr60 : thrOk 2147483648 32768 5608118 = true := by decide +kernel
theorem thr61 : thrOk 2553802833 35733 6075982 = true := by decide +kernel
theorem thr62 : thrOk 3037000499 38967 6534402 = true := by decide +kernel
theorem thr63 : thrOk 3611622602 42494 7077942 = true := by decide +kernel
/-- A bound W, the least exponent above it, and the next bound. -/
structure ThrE where
  W : Nat
  c : Nat
  V : Nat
def thrE0 : ThrE := ⟨65536, 15526, 77935⟩
def thrE1 : ThrE := ⟨77935, 17722, 92681⟩
def thrE2 : ThrE := ⟨92681, 19618, 110217⟩
def thrE3 : ThrE := ⟨110217, 22354, 131072⟩
def thrE4 : ThrE := ⟨131072, 25802, 155871⟩
def thrE5 : ThrE := ⟨155871, 28854, 185363⟩
def thrE6 : ThrE := ⟨185363, 32382, 220435⟩
def thrE7 : ThrE := ⟨220435, 35894, 262144⟩
def thrE8 : ThrE := ⟨262144, 41194, 311743⟩
def thrE9 : ThrE := ⟨311743, 46198, 370727⟩
def thrE10 : ThrE := ⟨370727, 51386, 440871⟩
def thrE11 : ThrE := ⟨440871, 57330, 524288⟩
def thrE12 : ThrE := ⟨524288, 64590, 623487⟩
def thrE13 : ThrE := ⟨623487, 72582, 741455⟩
def thrE14 : ThrE := ⟨741455, 80810, 881743⟩
def thrE15 : ThrE := ⟨881743, 89986, 1048576⟩
def thrE16 : ThrE := ⟨1048576, 100606, 1246974⟩
def thrE17 : ThrE := ⟨1246974, 111838, 1482910⟩
def thrE18 : ThrE := ⟨1482910, 125538, 1763487⟩
def thrE19 : ThrE := ⟨1763487, 139358, 2097152⟩
def thrE20 : ThrE := ⟨2097152, 154310, 2493948⟩
def thrE21 : ThrE := ⟨2493948, 170454, 2965820⟩
def thrE22 : ThrE := ⟨2965820, 187826, 3526975⟩
def thrE23 : ThrE := ⟨3526975, 205918, 4194304⟩
def thrE24 : ThrE := ⟨4194304, 227878, 4987896⟩
def thrE25 : ThrE := ⟨4987896, 250578, 5931641⟩
def thrE26 : ThrE := ⟨5931641, 275146, 7053950⟩
def thrE27 : ThrE := ⟨7053950, 302774, 8388608⟩
def thrE28 : ThrE := ⟨8388608, 333246, 9975792⟩
def thrE29 : ThrE := ⟨9975792, 366994, 11863283⟩
def thrE30 : ThrE := ⟨11863283, 403326, 14107900⟩
def thrE31 : ThrE := ⟨14107900, 441010, 16777216⟩
def thrE32 : ThrE := ⟨16777216, 489930, 19951584⟩
def thrE33 : ThrE := ⟨19951584, 532230, 23726566⟩
def thrE34 : ThrE := ⟨23726566, 584210, 28215801⟩
def thrE35 : ThrE := ⟨28215801, 643742, 33554432⟩
def thrE36 : ThrE := ⟨33554432, 701838, 39903169⟩
def thrE37 : ThrE := ⟨39903169, 780146, 47453132⟩
def thrE38 : ThrE := ⟨47453132, 854334, 56431603⟩
def thrE39 : ThrE := ⟨56431603, 931946, 67108864⟩
def thrE40 : ThrE := ⟨67108864, 1016786, 79806338⟩
def thrE41 : ThrE := ⟨79806338, 1116162, 94906265⟩
def thrE42 : ThrE := ⟨94906265, 1234818, 112863206⟩
def thrE43 : ThrE := ⟨112863206, 1340886, 134217728⟩
def thrE44 : ThrE := ⟨134217728, 1467030, 159612677⟩
def thrE45 : ThrE := ⟨159612677, 1588598, 189812531⟩
def thrE46 : ThrE := ⟨189812531, 1747094, 225726412⟩
def thrE47 : ThrE := ⟨225726412, 1899298, 268435456⟩
def thrE48 : ThrE := ⟨268435456, 2079386, 319225354⟩
def thrE49 : ThrE := ⟨319225354, 2272986, 379625062⟩
def thrE50 : ThrE := ⟨379625062, 2467610, 451452825⟩
def thrE51 : ThrE := ⟨451452825, 2689014, 536870912⟩
def thrE52 : ThrE := ⟨536870912, 2929934, 638450708⟩
def thrE53 : ThrE := ⟨638450708, 3180914, 759250124⟩
def thrE54 : ThrE := ⟨759250124, 3456906, 902905650⟩
def thrE55 : ThrE := ⟨902905650, 3752594, 1073741824⟩
def thrE56 : ThrE := ⟨1073741824, 4060566, 1276901416⟩
def thrE57 : ThrE := ⟨1276901416, 4407010, 1518500249⟩
def thrE58 : ThrE := ⟨1518500249, 4784210, 1805811301⟩
def thrE59 : ThrE := ⟨1805811301, 5179258, 2147483648⟩
def thrE60 : ThrE := ⟨2147483648, 5608118, 2553802833⟩
def thrE61 : ThrE := ⟨2553802833, 6075982, 3037000499⟩
def thrE62 : ThrE := ⟨3037000499, 6534402, 3611622602⟩
def thrE63 : ThrE := ⟨3611622602, 7077942, 4294967296⟩
def thrL : List ThrE := [thrE0, thrE1, thrE2, thrE3, thrE4, thrE5, thrE6, thrE7, thrE8, thrE9, thrE10, thrE11, thrE12, thrE13, thrE14, thrE15, thrE16, thrE17, thrE18, thrE19, thrE20, thrE21, thrE22, thrE23, thrE24, thrE25, thrE26, thrE27, thrE28, thrE29, thrE30, thrE31, thrE32, thrE33, thrE34, thrE35, thrE36, thrE37, thrE38, thrE39, thrE40, thrE41, thrE42, thrE43, thrE44, thrE45, thrE46, thrE47, thrE48, thrE49, thrE50, thrE51, thrE52, thrE53, thrE54, thrE55, thrE56, thrE57, thrE58, thrE59, thrE60, thrE61, thrE62, thrE63]
theorem thrL_ok : ∀ e ∈ thrL, ∃ X, thrOk e.W X e.c = true := by
  intro e he
  simp only [thrL, List.mem_cons, List.not_mem_nil, or_false] at he
  rcases he with rfl | rfl | rfl | rfl | rfl | rfl | rfl | rfl | rfl | rfl | rfl | rfl | rfl | rfl | rfl | rfl | rfl | rfl | rfl | rfl | rfl | rfl | rfl | rfl | rfl | rfl | rfl | rfl | rfl | rfl | rfl | rfl | rfl | rfl | rfl | rfl | rfl | rfl | rfl | rfl | rfl | rfl | rfl | rfl | rfl | rfl | rfl | rfl | rfl | rfl | rfl | rfl | rfl | rfl | rfl | rfl | rfl | rfl | rfl | rfl | rfl | rfl | rfl | rfl
  · exact ⟨_, thr0⟩
  · exact ⟨_, thr1⟩
  · exact ⟨_, thr2⟩
  · exact ⟨_, thr3⟩
  · exact ⟨_, thr4⟩
  · exact ⟨_, thr5⟩
  · exact ⟨_, thr6⟩
  · exact ⟨_, thr7⟩
  · exact ⟨_, thr8⟩
  · exact ⟨_, thr9⟩
  · exact ⟨_, thr10⟩
  · exact ⟨_, thr11⟩
  · exact ⟨_, thr12⟩
  · exact ⟨_, thr13⟩
  · exact ⟨_, thr14⟩
  · exact ⟨_, thr15⟩
  · exact ⟨_, thr16⟩
  · exact ⟨_, thr17⟩
  · exact ⟨_, thr18⟩
  · exact ⟨_, thr19⟩
  · exact ⟨_, thr20⟩
  · exact ⟨_, thr21⟩
  · exact ⟨_, thr22⟩
  · exact ⟨_, thr23⟩
  · exact ⟨_, thr24⟩
  · exact ⟨_, thr25⟩
  · exact ⟨_, thr26⟩
  · exact ⟨_, thr27⟩
  · exact ⟨_, thr28⟩
  · exact ⟨_, thr29⟩
  · exact ⟨_, thr30⟩
  · exact ⟨_, thr31⟩
  · exact ⟨_, thr32⟩
  · exact ⟨_, thr33⟩
  · exact ⟨_, thr34⟩
  · exact ⟨_, thr35⟩
  · exact ⟨_, thr36⟩
  · exact ⟨_, thr37⟩
  · exact ⟨_, thr38⟩
  · exact ⟨_, thr39⟩
  · exact ⟨_, thr40⟩
  · exact ⟨_, thr41⟩
  · exact ⟨_, thr42⟩
  · exact ⟨_, thr43⟩
  · exact ⟨_, thr44⟩
  · exact ⟨_, thr45⟩
  · exact ⟨_, thr46⟩
  · exact ⟨_, thr47⟩
  · exact ⟨_, thr48⟩
  · exact ⟨_, thr49⟩
  · exact ⟨_, thr50⟩
  · exact ⟨_, thr51⟩
  · exact ⟨_, thr52⟩
  · exact ⟨_, thr53⟩
  · exact ⟨_, thr54⟩
  · exact ⟨_, thr55⟩
  · exact ⟨_, thr56⟩
  · exact ⟨_, thr57⟩
  · exact ⟨_, thr58⟩
  · exact ⟨_, thr59⟩
  · exact ⟨_, thr60⟩
  · exact ⟨_, thr61⟩
  · exact ⟨_, thr62⟩
  · exact ⟨_, thr63⟩
/-- Some rows of it. -/
def thrD : List ThrE := [thrE0, thrE4, thrE8, thrE12, thrE16, thrE20, thrE24, thrE28, thrE32, thrE36, thrE40, thrE44, thrE48, thrE52, thrE56, thrE60]
theorem thrD_mem : ∀ e ∈ thrD, e ∈ thrL := by
  intro e he
  simp only [thrD, List.mem_cons, List.not_mem_nil, or_false] at he
  rcases he with rfl | rfl | rfl | rfl | rfl | rfl | rfl | rfl | rfl | rfl | rfl | rfl | rfl | rfl | rfl | rfl <;> simp [thrL]
theorem thrL_cov (w : Nat) (h1 : 65536 < w) (h2 : w < 4294967296) : ∃ e ∈ thrL, e.W < w ∧ w ≤ e.V := by
  by_cases h3 : w ≤ 77935
  · exact ⟨thrE0, by simp [thrL], by show 65536 < w; omega, h3⟩
  by_cases h4 : w ≤ 92681
  · exact ⟨thrE1, by simp [thrL], by show 77935 < w; omega, h4⟩
  by_cases h5 : w ≤ 110217
  · exact ⟨thrE2, by simp [thrL], by show 92681 < w; omega, h5⟩
  by_cases h6 : w ≤ 131072
  · exact ⟨thrE3, by simp [thrL], by show 110217 < w; omega, h6⟩
  by_cases h7 : w ≤ 155871
  · exact ⟨thrE4, by simp [thrL], by show 131072 < w; omega, h7⟩
  by_cases h8 : w ≤ 185363
  · exact ⟨thrE5, by simp [thrL], by show 155871 < w; omega, h8⟩
  by_cases h9 : w ≤ 220435
  · exact ⟨thrE6, by simp [thrL], by show 185363 < w; omega, h9⟩
  by_cases h10 : w ≤ 262144
  · exact ⟨thrE7, by simp [thrL], by show 220435 < w; omega, h10⟩
  by_cases h11 : w ≤ 311743
  · exact ⟨thrE8, by simp [thrL], by show 262144 < w; omega, h11⟩
  by_cases h12 : w ≤ 370727
  · exact ⟨thrE9, by simp [thrL], by show 311743 < w; omega, h12⟩
  by_cases h13 : w ≤ 440871
  · exact ⟨thrE10, by simp [thrL], by show 370727 < w; omega, h13⟩
  by_cases h14 : w ≤ 524288
  · exact ⟨thrE11, by simp [thrL], by show 440871 < w; omega, h14⟩
  by_cases h15 : w ≤ 623487
  · exact ⟨thrE12, by simp [thrL], by show 524288 < w; omega, h15⟩
  by_cases h16 : w ≤ 741455
  · exact ⟨thrE13, by simp [thrL], by show 623487 < w; omega, h16⟩
  by_cases h17 : w ≤ 881743
  · exact ⟨thrE14, by simp [thrL], by show 741455 < w; omega, h17⟩
  by_cases h18 : w ≤ 1048576
  · exact ⟨thrE15, by simp [thrL], by show 881743 < w; omega, h18⟩
  by_cases h19 : w ≤ 1246974
  · exact ⟨thrE16, by simp [thrL], by show 1048576 < w; omega, h19⟩
  by_cases h20 : w ≤ 1482910
  · exact ⟨thrE17, by simp [thrL], by show 1246974 < w; omega, h20⟩
  by_cases h21 : w ≤ 1763487
  · exact ⟨thrE18, by simp [thrL], by show 1482910 < w; omega, h21⟩
  by_cases h22 : w ≤ 2097152
  · exact ⟨thrE19, by simp [thrL], by show 1763487 < w; omega, h22⟩
  by_cases h23 : w ≤ 2493948
  · exact ⟨thrE20, by simp [thrL], by show 2097152 < w; omega, h23⟩
  by_cases h24 : w ≤ 2965820
  · exact ⟨thrE21, by simp [thrL], by show 2493948 < w; omega, h24⟩
  by_cases h25 : w ≤ 3526975
  · exact ⟨thrE22, by simp [thrL], by show 2965820 < w; omega, h25⟩
  by_cases h26 : w ≤ 4194304
  · exact ⟨thrE23, by simp [thrL], by show 3526975 < w; omega, h26⟩
  by_cases h27 : w ≤ 4987896
  · exact ⟨thrE24, by simp [thrL], by show 4194304 < w; omega, h27⟩
  by_cases h28 : w ≤ 5931641
  · exact ⟨thrE25, by simp [thrL], by show 4987896 < w; omega, h28⟩
  by_cases h29 : w ≤ 7053950
  · exact ⟨thrE26, by simp [thrL], by show 5931641 < w; omega, h29⟩
  by_cases h30 : w ≤ 8388608
  · exact ⟨thrE27, by simp [thrL], by show 7053950 < w; omega, h30⟩
  by_cases h31 : w ≤ 9975792
  · exact ⟨thrE28, by simp [thrL], by show 8388608 < w; omega, h31⟩
  by_cases h32 : w ≤ 11863283
  · exact ⟨thrE29, by simp [thrL], by show 9975792 < w; omega, h32⟩
  by_cases h33 : w ≤ 14107900
  · exact ⟨thrE30, by simp [thrL], by show 11863283 < w; omega, h33⟩
  by_cases h34 : w ≤ 16777216
  · exact ⟨thrE31, by simp [thrL], by show 14107900 < w; omega, h34⟩
  by_cases h35 : w ≤ 19951584
  · exact ⟨thrE32, by simp [thrL], by show 16777216 < w; omega, h35⟩
  by_cases h36 : w ≤ 23726566
  · exact ⟨thrE33, by simp [thrL], by show 19951584 < w; omega, h36⟩
  by_cases h37 : w ≤ 28215801
  · exact ⟨thrE34, by simp [thrL], by show 23726566 < w; omega, h37⟩
  by_cases h38 : w ≤ 33554432
  · exact ⟨thrE35, by simp [thrL], by show 28215801 < w; omega, h38⟩
  by_cases h39 : w ≤ 39903169
  · exact ⟨thrE36, by simp [thrL], by show 33554432 < w; omega, h39⟩
  by_cases h40 : w ≤ 47453132
  · exact ⟨thrE37, by simp [thrL], by show 39903169 < w; omega, h40⟩
  by_cases h41 : w ≤ 56431603
  · exact ⟨thrE38, by simp [thrL], by show 47453132 < w; omega, h41⟩
  by_cases h42 : w ≤ 67108864
  · exact ⟨thrE39, by simp [thrL], by show 56431603 < w; omega, h42⟩
  by_cases h43 : w ≤ 79806338
  · exact ⟨thrE40, by simp [thrL], by show 67108864 < w; omega, h43⟩
  by_cases h44 : w ≤ 94906265
  · exact ⟨thrE41, by simp [thrL], by show 79806338 < w; omega, h44⟩
  by_cases h45 : w ≤ 112863206
  · exact ⟨thrE42, by simp [thrL], by show 94906265 < w; omega, h45⟩
  by_cases h46 : w ≤ 134217728
  · exact ⟨thrE43, by simp [thrL], by show 112863206 < w; omega, h46⟩
  by_cases h47 : w ≤ 159612677
  · exact ⟨thrE44, by simp [thrL], by show 134217728 < w; omega, h47⟩
  by_cases h48 : w ≤ 189812531
  · exact ⟨thrE45, by simp [thrL], by show 159612677 < w; omega, h48⟩
  by_cases h49 : w ≤ 225726412
  · exact ⟨thrE46, by simp [thrL], by show 189812531 < w; omega, h49⟩
  by_cases h50 : w ≤ 268435456
  · exact ⟨thrE47, by simp [thrL], by show 225726412 < w; omega, h50⟩
  by_cases h51 : w ≤ 319225354
  · exact ⟨thrE48, by simp [thrL], by show 268435456 < w; omega, h51⟩
  by_cases h52 : w ≤ 379625062
  · exact ⟨thrE49, by simp [thrL], by show 319225354 < w; omega, h52⟩
  by_cases h53 : w ≤ 451452825
  · exact ⟨thrE50, by simp [thrL], by show 379625062 < w; omega, h53⟩
  by_cases h54 : w ≤ 536870912
  · exact ⟨thrE51, by simp [thrL], by show 451452825 < w; omega, h54⟩
  by_cases h55 : w ≤ 638450708
  · exact ⟨thrE52, by simp [thrL], by show 536870912 < w; omega, h55⟩
  by_cases h56 : w ≤ 759250124
  · exact ⟨thrE53, by simp [thrL], by show 638450708 < w; omega, h56⟩
  by_cases h57 : w ≤ 902905650
  · exact ⟨thrE54, by simp [thrL], by show 759250124 < w; omega, h57⟩
  by_cases h58 : w ≤ 1073741824
  · exact ⟨thrE55, by simp [thrL], by show 902905650 < w; omega, h58⟩
  by_cases h59 : w ≤ 1276901416
  · exact ⟨thrE56, by simp [thrL], by show 1073741824 < w; omega, h59⟩
  by_cases h60 : w ≤ 1518500249
  · exact ⟨thrE57, by simp [thrL], by show 1276901416 < w; omega, h60⟩
  by_cases h61 : w ≤ 1805811301
  · exact ⟨thrE58, by simp [thrL], by show 1518500249 < w; omega, h61⟩
  by_cases h62 : w ≤ 2147483648
  · exact ⟨thrE59, by simp [thrL], by show 1805811301 < w; omega, h62⟩
  by_cases h63 : w ≤ 2553802833
  · exact ⟨thrE60, by simp [thrL], by show 2147483648 < w; omega, h63⟩
  by_cases h64 : w ≤ 3037000499
  · exact ⟨thrE61, by simp [thrL], by show 2553802833 < w; omega, h64⟩
  by_cases h65 : w ≤ 3611622602
  · exact ⟨thrE62, by simp [thrL], by show 3037000499 < w; omega, h65⟩
  exact ⟨thrE63, by simp [thrL], by show 3611622602 < w; omega, by show w ≤ 4294967296; omega⟩
end Go.Proofs.YtpphfeinmmmckaaDoor
