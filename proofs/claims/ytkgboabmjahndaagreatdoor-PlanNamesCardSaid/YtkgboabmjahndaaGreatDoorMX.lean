/- Proved: closed facts on the types and functions of this translation. Conditions: none. -/
import Derived.Test.YtkgboabmjahndaaGreatDoorMA
import Derived.Test.YtkgboabmjahndaaGreatDoorProg
import Derived.KernelRfl
/- Closed facts on the types and the functions of this translation, each by the kernel. Written by a program. -/
set_option maxRecDepth 100000
namespace Go.Fx
open Go Go.Proofs
theorem ag3 : aggOf Tryz.prog 3 = some (false, 1) := by kernel_rfl
theorem ag4 : aggOf Tryz.prog 4 = some (false, 1) := by kernel_rfl
theorem ag5 : aggOf Tryz.prog 5 = some (false, 1) := by kernel_rfl
theorem ag9 : aggOf Tryz.prog 9 = some (false, 1) := by kernel_rfl
theorem ag22 : aggOf Tryz.prog 22 = some (false, 1) := by kernel_rfl
theorem ag24 : aggOf Tryz.prog 24 = some (false, 1) := by kernel_rfl
theorem ag26 : aggOf Tryz.prog 26 = some (false, 1) := by kernel_rfl
theorem ag28 : aggOf Tryz.prog 28 = some (false, 1) := by kernel_rfl
theorem ag29 : aggOf Tryz.prog 29 = some (false, 1) := by kernel_rfl
theorem ag31 : aggOf Tryz.prog 31 = some (true, 3) := by kernel_rfl
theorem ag37 : aggOf Tryz.prog 37 = some (true, 3) := by kernel_rfl
theorem ag38 : aggOf Tryz.prog 38 = some (false, 1) := by kernel_rfl
theorem ag39 : aggOf Tryz.prog 39 = some (false, 1) := by kernel_rfl
theorem ag41 : aggOf Tryz.prog 41 = some (true, 8) := by kernel_rfl
theorem ag43 : aggOf Tryz.prog 43 = some (true, 7) := by kernel_rfl
theorem ag45 : aggOf Tryz.prog 45 = some (false, 1) := by kernel_rfl
theorem ag51 : aggOf Tryz.prog 51 = some (false, 1) := by kernel_rfl
theorem ag53 : aggOf Tryz.prog 53 = some (true, 2) := by kernel_rfl
theorem ag58 : aggOf Tryz.prog 58 = some (true, 5) := by kernel_rfl
theorem ag63 : aggOf Tryz.prog 63 = some (false, 1) := by kernel_rfl
theorem ag65 : aggOf Tryz.prog 65 = some (false, 1) := by kernel_rfl
theorem ag67 : aggOf Tryz.prog 67 = some (true, 2) := by kernel_rfl
theorem ag68 : aggOf Tryz.prog 68 = some (false, 1) := by kernel_rfl
theorem ag70 : aggOf Tryz.prog 70 = some (true, 3) := by kernel_rfl
theorem ag72 : aggOf Tryz.prog 72 = some (true, 13) := by kernel_rfl
theorem ag79 : aggOf Tryz.prog 79 = some (true, 4) := by kernel_rfl
theorem ag85 : aggOf Tryz.prog 85 = some (true, 2) := by kernel_rfl
theorem ag92 : aggOf Tryz.prog 92 = some (true, 2) := by kernel_rfl
theorem ag119 : aggOf Tryz.prog 119 = some (false, 1) := by kernel_rfl
theorem ag124 : aggOf Tryz.prog 124 = some (true, 3) := by kernel_rfl
theorem ag127 : aggOf Tryz.prog 127 = some (false, 1) := by kernel_rfl
theorem ag133 : aggOf Tryz.prog 133 = some (false, 1) := by kernel_rfl
theorem ag154 : aggOf Tryz.prog 154 = some (true, 2) := by kernel_rfl
theorem ag174 : aggOf Tryz.prog 174 = some (false, 1) := by kernel_rfl
theorem ag176 : aggOf Tryz.prog 176 = some (true, 4) := by kernel_rfl
theorem ag180 : aggOf Tryz.prog 180 = some (true, 3) := by kernel_rfl
theorem ag183 : aggOf Tryz.prog 183 = some (true, 4) := by kernel_rfl
theorem ag214 : aggOf Tryz.prog 214 = some (false, 1) := by kernel_rfl
theorem ag219 : aggOf Tryz.prog 219 = some (false, 1) := by kernel_rfl
theorem ag262 : aggOf Tryz.prog 262 = some (true, 7) := by kernel_rfl
theorem ag271 : aggOf Tryz.prog 271 = some (false, 1) := by kernel_rfl
theorem ag274 : aggOf Tryz.prog 274 = some (false, 1) := by kernel_rfl
theorem ag288 : aggOf Tryz.prog 288 = some (false, 1) := by kernel_rfl
theorem ag294 : aggOf Tryz.prog 294 = some (true, 3) := by kernel_rfl
theorem ag350 : aggOf Tryz.prog 350 = some (true, 20) := by kernel_rfl
theorem ag352 : aggOf Tryz.prog 352 = some (false, 1) := by kernel_rfl
theorem ag362 : aggOf Tryz.prog 362 = some (true, 256) := by kernel_rfl
theorem ag390 : aggOf Tryz.prog 390 = some (true, 32) := by kernel_rfl
theorem ag391 : aggOf Tryz.prog 391 = some (true, 64) := by kernel_rfl
theorem ag392 : aggOf Tryz.prog 392 = some (true, 16) := by kernel_rfl
theorem ag398 : aggOf Tryz.prog 398 = some (true, 2) := by kernel_rfl
theorem ag399 : aggOf Tryz.prog 399 = some (true, 32) := by kernel_rfl
theorem fo31_0 : fieldOff Tryz.prog 31 0 = some 0 := by kernel_rfl
theorem fo31_1 : fieldOff Tryz.prog 31 1 = some 1 := by kernel_rfl
theorem fo31_2 : fieldOff Tryz.prog 31 2 = some 2 := by kernel_rfl
theorem fo37_0 : fieldOff Tryz.prog 37 0 = some 0 := by kernel_rfl
theorem fo37_1 : fieldOff Tryz.prog 37 1 = some 1 := by kernel_rfl
theorem fo37_2 : fieldOff Tryz.prog 37 2 = some 2 := by kernel_rfl
theorem fo41_0 : fieldOff Tryz.prog 41 0 = some 0 := by kernel_rfl
theorem fo41_1 : fieldOff Tryz.prog 41 1 = some 3 := by kernel_rfl
theorem fo41_2 : fieldOff Tryz.prog 41 2 = some 4 := by kernel_rfl
theorem fo41_3 : fieldOff Tryz.prog 41 3 = some 5 := by kernel_rfl
theorem fo41_4 : fieldOff Tryz.prog 41 4 = some 6 := by kernel_rfl
theorem fo41_5 : fieldOff Tryz.prog 41 5 = some 7 := by kernel_rfl
theorem fo43_0 : fieldOff Tryz.prog 43 0 = some 0 := by kernel_rfl
theorem fo43_1 : fieldOff Tryz.prog 43 1 = some 1 := by kernel_rfl
theorem fo43_2 : fieldOff Tryz.prog 43 2 = some 2 := by kernel_rfl
theorem fo43_3 : fieldOff Tryz.prog 43 3 = some 3 := by kernel_rfl
theorem fo43_4 : fieldOff Tryz.prog 43 4 = some 4 := by kernel_rfl
theorem fo43_5 : fieldOff Tryz.prog 43 5 = some 5 := by kernel_rfl
theorem fo43_6 : fieldOff Tryz.prog 43 6 = some 6 := by kernel_rfl
theorem fo53_0 : fieldOff Tryz.prog 53 0 = some 0 := by kernel_rfl
theorem fo53_1 : fieldOff Tryz.prog 53 1 = some 1 := by kernel_rfl
theorem fo58_0 : fieldOff Tryz.prog 58 0 = some 0 := by kernel_rfl
theorem fo58_1 : fieldOff Tryz.prog 58 1 = some 1 := by kernel_rfl
theorem fo58_2 : fieldOff Tryz.prog 58 2 = some 2 := by kernel_rfl
theorem fo58_3 : fieldOff Tryz.prog 58 3 = some 3 := by kernel_rfl
theorem fo58_4 : fieldOff Tryz.prog 58 4 = some 4 := by kernel_rfl
theorem fo67_0 : fieldOff Tryz.prog 67 0 = some 0 := by kernel_rfl
theorem fo67_1 : fieldOff Tryz.prog 67 1 = some 1 := by kernel_rfl
theorem fo70_0 : fieldOff Tryz.prog 70 0 = some 0 := by kernel_rfl
theorem fo70_1 : fieldOff Tryz.prog 70 1 = some 1 := by kernel_rfl
theorem fo70_2 : fieldOff Tryz.prog 70 2 = some 2 := by kernel_rfl
theorem fo72_0 : fieldOff Tryz.prog 72 0 = some 0 := by kernel_rfl
theorem fo72_1 : fieldOff Tryz.prog 72 1 = some 2 := by kernel_rfl
theorem fo72_2 : fieldOff Tryz.prog 72 2 = some 10 := by kernel_rfl
theorem fo79_0 : fieldOff Tryz.prog 79 0 = some 0 := by kernel_rfl
theorem fo79_1 : fieldOff Tryz.prog 79 1 = some 1 := by kernel_rfl
theorem fo85_0 : fieldOff Tryz.prog 85 0 = some 0 := by kernel_rfl
theorem fo85_1 : fieldOff Tryz.prog 85 1 = some 1 := by kernel_rfl
theorem fo92_0 : fieldOff Tryz.prog 92 0 = some 0 := by kernel_rfl
theorem fo92_1 : fieldOff Tryz.prog 92 1 = some 1 := by kernel_rfl
theorem fo121_0 : fieldOff Tryz.prog 121 0 = some 0 := by kernel_rfl
theorem fo121_1 : fieldOff Tryz.prog 121 1 = some 1 := by kernel_rfl
theorem fo124_0 : fieldOff Tryz.prog 124 0 = some 0 := by kernel_rfl
theorem fo124_1 : fieldOff Tryz.prog 124 1 = some 1 := by kernel_rfl
theorem fo124_2 : fieldOff Tryz.prog 124 2 = some 2 := by kernel_rfl
theorem fo135_0 : fieldOff Tryz.prog 135 0 = some 0 := by kernel_rfl
theorem fo135_1 : fieldOff Tryz.prog 135 1 = some 8 := by kernel_rfl
theorem fo135_2 : fieldOff Tryz.prog 135 2 = some 16 := by kernel_rfl
theorem fo135_3 : fieldOff Tryz.prog 135 3 = some 23 := by kernel_rfl
theorem fo135_4 : fieldOff Tryz.prog 135 4 = some 24 := by kernel_rfl
theorem fo140_0 : fieldOff Tryz.prog 140 0 = some 0 := by kernel_rfl
theorem fo140_1 : fieldOff Tryz.prog 140 1 = some 1 := by kernel_rfl
theorem fo140_2 : fieldOff Tryz.prog 140 2 = some 9 := by kernel_rfl
theorem fo140_3 : fieldOff Tryz.prog 140 3 = some 17 := by kernel_rfl
theorem fo140_4 : fieldOff Tryz.prog 140 4 = some 24 := by kernel_rfl
theorem fo154_0 : fieldOff Tryz.prog 154 0 = some 0 := by kernel_rfl
theorem fo154_1 : fieldOff Tryz.prog 154 1 = some 1 := by kernel_rfl
theorem fo163_0 : fieldOff Tryz.prog 163 0 = some 0 := by kernel_rfl
theorem fo163_1 : fieldOff Tryz.prog 163 1 = some 1 := by kernel_rfl
theorem fo176_0 : fieldOff Tryz.prog 176 0 = some 0 := by kernel_rfl
theorem fo176_1 : fieldOff Tryz.prog 176 1 = some 1 := by kernel_rfl
theorem fo176_2 : fieldOff Tryz.prog 176 2 = some 2 := by kernel_rfl
theorem fo176_3 : fieldOff Tryz.prog 176 3 = some 3 := by kernel_rfl
theorem fo180_0 : fieldOff Tryz.prog 180 0 = some 0 := by kernel_rfl
theorem fo180_1 : fieldOff Tryz.prog 180 1 = some 1 := by kernel_rfl
theorem fo180_2 : fieldOff Tryz.prog 180 2 = some 2 := by kernel_rfl
theorem fo183_0 : fieldOff Tryz.prog 183 0 = some 0 := by kernel_rfl
theorem fo183_1 : fieldOff Tryz.prog 183 1 = some 1 := by kernel_rfl
theorem fo183_2 : fieldOff Tryz.prog 183 2 = some 2 := by kernel_rfl
theorem fo183_3 : fieldOff Tryz.prog 183 3 = some 3 := by kernel_rfl
theorem fo216_0 : fieldOff Tryz.prog 216 0 = some 0 := by kernel_rfl
theorem fo216_1 : fieldOff Tryz.prog 216 1 = some 1 := by kernel_rfl
theorem fo250_0 : fieldOff Tryz.prog 250 0 = some 0 := by kernel_rfl
theorem fo250_1 : fieldOff Tryz.prog 250 1 = some 3 := by kernel_rfl
theorem fo267_0 : fieldOff Tryz.prog 267 0 = some 0 := by kernel_rfl
theorem fo267_1 : fieldOff Tryz.prog 267 1 = some 1 := by kernel_rfl
theorem fo383_1 : fieldOff Tryz.prog 383 1 = some 1 := by kernel_rfl
theorem fo398_0 : fieldOff Tryz.prog 398 0 = some 0 := by kernel_rfl
theorem fo398_1 : fieldOff Tryz.prog 398 1 = some 1 := by kernel_rfl
theorem pl31 : placesOf Tryz.prog 31 = some [(0, 1), (1, 1), (2, 1)] := by kernel_rfl
theorem pl37 : placesOf Tryz.prog 37 = some [(0, 1), (1, 1), (2, 1)] := by kernel_rfl
theorem pl41 : placesOf Tryz.prog 41 = some [(0, 3), (3, 1), (4, 1), (5, 1), (6, 1), (7, 1)] := by kernel_rfl
theorem pl43 : placesOf Tryz.prog 43 = some [(0, 1), (1, 1), (2, 1), (3, 1), (4, 1), (5, 1), (6, 1)] := by kernel_rfl
theorem pl53 : placesOf Tryz.prog 53 = some [(0, 1), (1, 1)] := by kernel_rfl
theorem pl58 : placesOf Tryz.prog 58 = some [(0, 1), (1, 1), (2, 1), (3, 1), (4, 1)] := by kernel_rfl
theorem pl67 : placesOf Tryz.prog 67 = some [(0, 1), (1, 1)] := by kernel_rfl
theorem pl70 : placesOf Tryz.prog 70 = some [(0, 1), (1, 1), (2, 1)] := by kernel_rfl
theorem pl72 : placesOf Tryz.prog 72 = some [(0, 2), (2, 8), (10, 3)] := by kernel_rfl
theorem pl79 : placesOf Tryz.prog 79 = some [(0, 1), (1, 3)] := by kernel_rfl
theorem pl85 : placesOf Tryz.prog 85 = some [(0, 1), (1, 1)] := by kernel_rfl
theorem pl92 : placesOf Tryz.prog 92 = some [(0, 1), (1, 1)] := by kernel_rfl
theorem pl121 : placesOf Tryz.prog 121 = some [(0, 1), (1, 1)] := by kernel_rfl
theorem pl124 : placesOf Tryz.prog 124 = some [(0, 1), (1, 1), (2, 1)] := by kernel_rfl
theorem pl135 : placesOf Tryz.prog 135 = some [(0, 8), (8, 8), (16, 7), (23, 1), (24, 1)] := by kernel_rfl
theorem pl140 : placesOf Tryz.prog 140 = some [(0, 1), (1, 8), (9, 8), (17, 7), (24, 1)] := by kernel_rfl
theorem pl154 : placesOf Tryz.prog 154 = some [(0, 1), (1, 1)] := by kernel_rfl
theorem pl163 : placesOf Tryz.prog 163 = some [(0, 1), (1, 1)] := by kernel_rfl
theorem pl176 : placesOf Tryz.prog 176 = some [(0, 1), (1, 1), (2, 1), (3, 1)] := by kernel_rfl
theorem pl180 : placesOf Tryz.prog 180 = some [(0, 1), (1, 1), (2, 1)] := by kernel_rfl
theorem pl183 : placesOf Tryz.prog 183 = some [(0, 1), (1, 1), (2, 1), (3, 1)] := by kernel_rfl
theorem pl250 : placesOf Tryz.prog 250 = some [(0, 3), (3, 1)] := by kernel_rfl
theorem pl254 : placesOf Tryz.prog 254 = some [] := by kernel_rfl
theorem pl267 : placesOf Tryz.prog 267 = some [(0, 1), (1, 1)] := by kernel_rfl
theorem pl383 : placesOf Tryz.prog 383 = some [(0, 1), (1, 1)] := by kernel_rfl
theorem pl398 : placesOf Tryz.prog 398 = some [(0, 1), (1, 1)] := by kernel_rfl
theorem el3 : elemOf Tryz.prog 3 = some (1, 8) := by kernel_rfl
theorem el5 : elemOf Tryz.prog 5 = some (1, 1) := by kernel_rfl
theorem el9 : elemOf Tryz.prog 9 = some (1, 16) := by kernel_rfl
theorem el38 : elemOf Tryz.prog 38 = some (1, 24) := by kernel_rfl
theorem el43 : elemOf Tryz.prog 43 = some (7, 72) := by kernel_rfl
theorem el51 : elemOf Tryz.prog 51 = some (1, 24) := by kernel_rfl
theorem el53 : elemOf Tryz.prog 53 = some (2, 40) := by kernel_rfl
theorem el58 : elemOf Tryz.prog 58 = some (5, 64) := by kernel_rfl
theorem el79 : elemOf Tryz.prog 79 = some (4, 72) := by kernel_rfl
theorem el85 : elemOf Tryz.prog 85 = some (2, 32) := by kernel_rfl
theorem el92 : elemOf Tryz.prog 92 = some (2, 16) := by kernel_rfl
theorem el124 : elemOf Tryz.prog 124 = some (3, 40) := by kernel_rfl
theorem el154 : elemOf Tryz.prog 154 = some (2, 40) := by kernel_rfl
theorem el176 : elemOf Tryz.prog 176 = some (4, 48) := by kernel_rfl
theorem el180 : elemOf Tryz.prog 180 = some (3, 40) := by kernel_rfl
theorem el183 : elemOf Tryz.prog 183 = some (4, 32) := by kernel_rfl
theorem zo3 : zeroOf Tryz.prog 3 = some [.int .i64 0] := by kernel_rfl
theorem zo4 : zeroOf Tryz.prog 4 = some [.bool false] := by kernel_rfl
theorem zo5 : zeroOf Tryz.prog 5 = some [.int .u8 0] := by kernel_rfl
theorem zo9 : zeroOf Tryz.prog 9 = some [.string ⟨#[]⟩] := by kernel_rfl
theorem zo26 : zeroOf Tryz.prog 26 = some [.slice none 0 0] := by kernel_rfl
theorem zo31 : zeroOf Tryz.prog 31 = some [.slice none 0 0, .slice none 0 0, .int .i64 0] := by kernel_rfl
theorem zo37 : zeroOf Tryz.prog 37 = some [.int .i64 0, .int .i64 0, .int .i64 0] := by kernel_rfl
theorem zo38 : zeroOf Tryz.prog 38 = some [.slice none 0 0] := by kernel_rfl
theorem zo41 : zeroOf Tryz.prog 41 = some [.int .i64 0, .int .i64 0, .int .i64 0, .int .i64 0, .slice none 0 0, .slice none 0 0, .int .i64 0, .int .i64 0] := by kernel_rfl
theorem zo43 : zeroOf Tryz.prog 43 = some [.int .i64 0, .int .i64 0, .int .i64 0, .int .i64 0, .int .i64 0, .int .i64 0, .slice none 0 0] := by kernel_rfl
theorem zo45 : zeroOf Tryz.prog 45 = some [.int .i64 0] := by kernel_rfl
theorem zo51 : zeroOf Tryz.prog 51 = some [.slice none 0 0] := by kernel_rfl
theorem zo53 : zeroOf Tryz.prog 53 = some [.string ⟨#[]⟩, .slice none 0 0] := by kernel_rfl
theorem zo58 : zeroOf Tryz.prog 58 = some [.int .i64 0, .int .i64 0, .int .i64 0, .string ⟨#[]⟩, .slice none 0 0] := by kernel_rfl
theorem zo63 : zeroOf Tryz.prog 63 = some [.slice none 0 0] := by kernel_rfl
theorem zo67 : zeroOf Tryz.prog 67 = some [.int .i64 0, .slice none 0 0] := by kernel_rfl
theorem zo70 : zeroOf Tryz.prog 70 = some [.slice none 0 0, .slice none 0 0, .int .i64 0] := by kernel_rfl
theorem zo72 : zeroOf Tryz.prog 72 = some [.int .i64 0, .slice none 0 0, .int .i64 0, .int .i64 0, .int .i64 0, .int .i64 0, .slice none 0 0, .slice none 0 0, .int .i64 0, .int .i64 0, .slice none 0 0, .slice none 0 0, .int .i64 0] := by kernel_rfl
theorem zo79 : zeroOf Tryz.prog 79 = some [.string ⟨#[]⟩, .slice none 0 0, .slice none 0 0, .int .i64 0] := by kernel_rfl
theorem zo85 : zeroOf Tryz.prog 85 = some [.int .i64 0, .slice none 0 0] := by kernel_rfl
theorem zo92 : zeroOf Tryz.prog 92 = some [.int .i64 0, .int .i64 0] := by kernel_rfl
theorem zo121 : zeroOf Tryz.prog 121 = some [.int .i64 0, .map none] := by kernel_rfl
theorem zo124 : zeroOf Tryz.prog 124 = some [.int .i64 0, .int .i64 0, .slice none 0 0] := by kernel_rfl
theorem zo127 : zeroOf Tryz.prog 127 = some [.pointer none] := by kernel_rfl
theorem zo135 : zeroOf Tryz.prog 135 = some [.int .i64 0, .int .i64 0, .int .i64 0, .int .i64 0, .slice none 0 0, .slice none 0 0, .int .i64 0, .int .i64 0, .int .i64 0, .int .i64 0, .int .i64 0, .int .i64 0, .slice none 0 0, .slice none 0 0, .int .i64 0, .int .i64 0, .int .i64 0, .int .i64 0, .int .i64 0, .int .i64 0, .int .i64 0, .int .i64 0, .slice none 0 0, .slice none 0 0, .nilFunc] := by kernel_rfl
theorem zo140 : zeroOf Tryz.prog 140 = some [.int .i64 0, .int .i64 0, .int .i64 0, .int .i64 0, .int .i64 0, .slice none 0 0, .slice none 0 0, .int .i64 0, .int .i64 0, .int .i64 0, .int .i64 0, .int .i64 0, .int .i64 0, .slice none 0 0, .slice none 0 0, .int .i64 0, .int .i64 0, .int .i64 0, .int .i64 0, .int .i64 0, .int .i64 0, .int .i64 0, .int .i64 0, .slice none 0 0, .slice none 0 0] := by kernel_rfl
theorem zo154 : zeroOf Tryz.prog 154 = some [.string ⟨#[]⟩, .slice none 0 0] := by kernel_rfl
theorem zo163 : zeroOf Tryz.prog 163 = some [.slice none 0 0, .int .i64 0] := by kernel_rfl
theorem zo174 : zeroOf Tryz.prog 174 = some [.slice none 0 0] := by kernel_rfl
theorem zo176 : zeroOf Tryz.prog 176 = some [.int .i64 0, .int .i64 0, .int .i64 0, .slice none 0 0] := by kernel_rfl
theorem zo180 : zeroOf Tryz.prog 180 = some [.int .i64 0, .int .i64 0, .slice none 0 0] := by kernel_rfl
theorem zo183 : zeroOf Tryz.prog 183 = some [.int .i64 0, .int .i64 0, .int .i64 0, .int .i64 0] := by kernel_rfl
theorem zo216 : zeroOf Tryz.prog 216 = some [.pointer none, .slice none 0 0] := by kernel_rfl
theorem zo250 : zeroOf Tryz.prog 250 = some [.slice none 0 0, .slice none 0 0, .int .i64 0, .bool false] := by kernel_rfl
theorem zo254 : zeroOf Tryz.prog 254 = some [] := by kernel_rfl
theorem zo262 : zeroOf Tryz.prog 262 = some [.int .i64 0, .int .i64 0, .int .i64 0, .int .i64 0, .int .i64 0, .int .i64 0, .int .i64 0] := by kernel_rfl
theorem zo267 : zeroOf Tryz.prog 267 = some [.slice none 0 0, .int .i64 0] := by kernel_rfl
theorem zo294 : zeroOf Tryz.prog 294 = some [.pointer none, .pointer none, .int .u64 0] := by kernel_rfl
theorem zo304 : zeroOf Tryz.prog 304 = some [.int .u8 0, .int .u8 0, .int .u8 0, .int .u8 0, .int .u8 0, .int .u8 0, .int .u8 0, .int .u8 0, .int .u8 0, .int .u8 0, .int .u8 0, .int .u8 0, .int .u8 0, .int .u8 0, .int .u8 0, .int .u8 0, .int .u8 0, .int .u8 0, .int .u8 0, .int .u8 0, .int .u8 0, .int .u8 0, .int .u8 0, .int .u8 0] := by kernel_rfl
theorem zo350 : zeroOf Tryz.prog 350 = some [.int .u64 0, .int .u64 0, .int .u64 0, .int .u64 0, .int .u64 0, .int .u64 0, .int .u64 0, .int .u64 0, .int .u64 0, .int .u64 0, .int .u64 0, .int .u64 0, .int .u64 0, .int .u64 0, .int .u64 0, .int .u64 0, .int .u64 0, .int .u64 0, .int .u64 0, .int .u64 0] := by kernel_rfl
theorem zo351 : zeroOf Tryz.prog 351 = some [.int .u8 0, .int .u8 0, .int .u8 0, .int .u8 0, .int .u8 0, .int .u8 0, .int .u8 0, .int .u8 0, .int .u8 0, .int .u8 0, .int .u8 0, .int .u8 0, .int .u8 0, .int .u8 0, .int .u8 0, .int .u8 0, .int .u8 0, .int .u8 0, .int .u8 0, .int .u8 0, .int .u8 0, .int .u8 0, .int .u8 0, .int .u8 0, .int .u8 0, .int .u8 0, .int .u8 0, .int .u8 0, .int .u8 0, .int .u8 0, .int .u8 0, .int .u8 0, .int .u8 0, .int .u8 0, .int .u8 0, .int .u8 0, .int .u8 0, .int .u8 0, .int .u8 0, .int .u8 0, .int .u8 0, .int .u8 0, .int .u8 0, .int .u8 0, .int .u8 0, .int .u8 0, .int .u8 0, .int .u8 0, .int .u8 0, .int .u8 0, .int .u8 0, .int .u8 0, .int .u8 0, .int .u8 0, .int .u8 0, .int .u8 0, .int .u8 0, .int .u8 0, .int .u8 0, .int .u8 0, .int .u8 0, .int .u8 0, .int .u8 0, .int .u8 0, .int .u8 0] := by kernel_rfl
theorem zo352 : zeroOf Tryz.prog 352 = some [.int .u64 0] := by kernel_rfl
theorem zo362 : zeroOf Tryz.prog 362 = some [.bool false, .bool false, .bool false, .bool false, .bool false, .bool false, .bool false, .bool false, .bool false, .bool false, .bool false, .bool false, .bool false, .bool false, .bool false, .bool false, .bool false, .bool false, .bool false, .bool false, .bool false, .bool false, .bool false, .bool false, .bool false, .bool false, .bool false, .bool false, .bool false, .bool false, .bool false, .bool false, .bool false, .bool false, .bool false, .bool false, .bool false, .bool false, .bool false, .bool false, .bool false, .bool false, .bool false, .bool false, .bool false, .bool false, .bool false, .bool false, .bool false, .bool false, .bool false, .bool false, .bool false, .bool false, .bool false, .bool false, .bool false, .bool false, .bool false, .bool false, .bool false, .bool false, .bool false, .bool false, .bool false, .bool false, .bool false, .bool false, .bool false, .bool false, .bool false, .bool false, .bool false, .bool false, .bool false, .bool false, .bool false, .bool false, .bool false, .bool false, .bool false, .bool false, .bool false, .bool false, .bool false, .bool false, .bool false, .bool false, .bool false, .bool false, .bool false, .bool false, .bool false, .bool false, .bool false, .bool false, .bool false, .bool false, .bool false, .bool false, .bool false, .bool false, .bool false, .bool false, .bool false, .bool false, .bool false, .bool false, .bool false, .bool false, .bool false, .bool false, .bool false, .bool false, .bool false, .bool false, .bool false, .bool false, .bool false, .bool false, .bool false, .bool false, .bool false, .bool false, .bool false, .bool false, .bool false, .bool false, .bool false, .bool false, .bool false, .bool false, .bool false, .bool false, .bool false, .bool false, .bool false, .bool false, .bool false, .bool false, .bool false, .bool false, .bool false, .bool false, .bool false, .bool false, .bool false, .bool false, .bool false, .bool false, .bool false, .bool false, .bool false, .bool false, .bool false, .bool false, .bool false, .bool false, .bool false, .bool false, .bool false, .bool false, .bool false, .bool false, .bool false, .bool false, .bool false, .bool false, .bool false, .bool false, .bool false, .bool false, .bool false, .bool false, .bool false, .bool false, .bool false, .bool false, .bool false, .bool false, .bool false, .bool false, .bool false, .bool false, .bool false, .bool false, .bool false, .bool false, .bool false, .bool false, .bool false, .bool false, .bool false, .bool false, .bool false, .bool false, .bool false, .bool false, .bool false, .bool false, .bool false, .bool false, .bool false, .bool false, .bool false, .bool false, .bool false, .bool false, .bool false, .bool false, .bool false, .bool false, .bool false, .bool false, .bool false, .bool false, .bool false, .bool false, .bool false, .bool false, .bool false, .bool false, .bool false, .bool false, .bool false, .bool false, .bool false, .bool false, .bool false, .bool false, .bool false, .bool false, .bool false, .bool false, .bool false, .bool false, .bool false, .bool false, .bool false, .bool false, .bool false, .bool false, .bool false, .bool false, .bool false, .bool false, .bool false, .bool false, .bool false, .bool false, .bool false, .bool false, .bool false, .bool false, .bool false, .bool false] := by kernel_rfl
theorem zo383 : zeroOf Tryz.prog 383 = some [.int .i64 0, .int .i64 0] := by kernel_rfl
theorem zo390 : zeroOf Tryz.prog 390 = some [.int .u8 0, .int .u8 0, .int .u8 0, .int .u8 0, .int .u8 0, .int .u8 0, .int .u8 0, .int .u8 0, .int .u8 0, .int .u8 0, .int .u8 0, .int .u8 0, .int .u8 0, .int .u8 0, .int .u8 0, .int .u8 0, .int .u8 0, .int .u8 0, .int .u8 0, .int .u8 0, .int .u8 0, .int .u8 0, .int .u8 0, .int .u8 0, .int .u8 0, .int .u8 0, .int .u8 0, .int .u8 0, .int .u8 0, .int .u8 0, .int .u8 0, .int .u8 0] := by kernel_rfl
theorem zo391 : zeroOf Tryz.prog 391 = some [.int .u8 0, .int .u8 0, .int .u8 0, .int .u8 0, .int .u8 0, .int .u8 0, .int .u8 0, .int .u8 0, .int .u8 0, .int .u8 0, .int .u8 0, .int .u8 0, .int .u8 0, .int .u8 0, .int .u8 0, .int .u8 0, .int .u8 0, .int .u8 0, .int .u8 0, .int .u8 0, .int .u8 0, .int .u8 0, .int .u8 0, .int .u8 0, .int .u8 0, .int .u8 0, .int .u8 0, .int .u8 0, .int .u8 0, .int .u8 0, .int .u8 0, .int .u8 0, .int .u8 0, .int .u8 0, .int .u8 0, .int .u8 0, .int .u8 0, .int .u8 0, .int .u8 0, .int .u8 0, .int .u8 0, .int .u8 0, .int .u8 0, .int .u8 0, .int .u8 0, .int .u8 0, .int .u8 0, .int .u8 0, .int .u8 0, .int .u8 0, .int .u8 0, .int .u8 0, .int .u8 0, .int .u8 0, .int .u8 0, .int .u8 0, .int .u8 0, .int .u8 0, .int .u8 0, .int .u8 0, .int .u8 0, .int .u8 0, .int .u8 0, .int .u8 0] := by kernel_rfl
theorem zo392 : zeroOf Tryz.prog 392 = some [.int .u32 0, .int .u32 0, .int .u32 0, .int .u32 0, .int .u32 0, .int .u32 0, .int .u32 0, .int .u32 0, .int .u32 0, .int .u32 0, .int .u32 0, .int .u32 0, .int .u32 0, .int .u32 0, .int .u32 0, .int .u32 0] := by kernel_rfl
theorem zo398 : zeroOf Tryz.prog 398 = some [.int .u8 0, .int .u8 0] := by kernel_rfl
theorem zo399 : zeroOf Tryz.prog 399 = some [.int .u8 0, .int .u8 0, .int .u8 0, .int .u8 0, .int .u8 0, .int .u8 0, .int .u8 0, .int .u8 0, .int .u8 0, .int .u8 0, .int .u8 0, .int .u8 0, .int .u8 0, .int .u8 0, .int .u8 0, .int .u8 0, .int .u8 0, .int .u8 0, .int .u8 0, .int .u8 0, .int .u8 0, .int .u8 0, .int .u8 0, .int .u8 0, .int .u8 0, .int .u8 0, .int .u8 0, .int .u8 0, .int .u8 0, .int .u8 0, .int .u8 0, .int .u8 0] := by kernel_rfl
theorem en2 : Enters Tryz.prog 2 := Enters.of Tryz.func2 (by kernel_rfl) (by kernel_rfl)
theorem en3 : Enters Tryz.prog 3 := Enters.of Tryz.func3 (by kernel_rfl) (by kernel_rfl)
theorem en4 : Enters Tryz.prog 4 := Enters.of Tryz.func4 (by kernel_rfl) (by kernel_rfl)
theorem en5 : Enters Tryz.prog 5 := Enters.of Tryz.func5 (by kernel_rfl) (by kernel_rfl)
theorem en6 : Enters Tryz.prog 6 := Enters.of Tryz.func6 (by kernel_rfl) (by kernel_rfl)
theorem en7 : Enters Tryz.prog 7 := Enters.of Tryz.func7 (by kernel_rfl) (by kernel_rfl)
theorem en8 : Enters Tryz.prog 8 := Enters.of Tryz.func8 (by kernel_rfl) (by kernel_rfl)
theorem en9 : Enters Tryz.prog 9 := Enters.of Tryz.func9 (by kernel_rfl) (by kernel_rfl)
theorem en10 : Enters Tryz.prog 10 := Enters.of Tryz.func10 (by kernel_rfl) (by kernel_rfl)
theorem en11 : Enters Tryz.prog 11 := Enters.of Tryz.func11 (by kernel_rfl) (by kernel_rfl)
theorem en12 : Enters Tryz.prog 12 := Enters.of Tryz.func12 (by kernel_rfl) (by kernel_rfl)
theorem en13 : Enters Tryz.prog 13 := Enters.of Tryz.func13 (by kernel_rfl) (by kernel_rfl)
theorem en14 : Enters Tryz.prog 14 := Enters.of Tryz.func14 (by kernel_rfl) (by kernel_rfl)
theorem en15 : Enters Tryz.prog 15 := Enters.of Tryz.func15 (by kernel_rfl) (by kernel_rfl)
theorem en16 : Enters Tryz.prog 16 := Enters.of Tryz.func16 (by kernel_rfl) (by kernel_rfl)
theorem en17 : Enters Tryz.prog 17 := Enters.of Tryz.func17 (by kernel_rfl) (by kernel_rfl)
theorem en18 : Enters Tryz.prog 18 := Enters.of Tryz.func18 (by kernel_rfl) (by kernel_rfl)
theorem en19 : Enters Tryz.prog 19 := Enters.of Tryz.func19 (by kernel_rfl) (by kernel_rfl)
theorem en20 : Enters Tryz.prog 20 := Enters.of Tryz.func20 (by kernel_rfl) (by kernel_rfl)
theorem en21 : Enters Tryz.prog 21 := Enters.of Tryz.func21 (by kernel_rfl) (by kernel_rfl)
theorem en22 : Enters Tryz.prog 22 := Enters.of Tryz.func22 (by kernel_rfl) (by kernel_rfl)
theorem en23 : Enters Tryz.prog 23 := Enters.of Tryz.func23 (by kernel_rfl) (by kernel_rfl)
theorem en24 : Enters Tryz.prog 24 := Enters.of Tryz.func24 (by kernel_rfl) (by kernel_rfl)
theorem en25 : Enters Tryz.prog 25 := Enters.of Tryz.func25 (by kernel_rfl) (by kernel_rfl)
theorem en26 : Enters Tryz.prog 26 := Enters.of Tryz.func26 (by kernel_rfl) (by kernel_rfl)
theorem en27 : Enters Tryz.prog 27 := Enters.of Tryz.func27 (by kernel_rfl) (by kernel_rfl)
theorem en28 : Enters Tryz.prog 28 := Enters.of Tryz.func28 (by kernel_rfl) (by kernel_rfl)
theorem en29 : Enters Tryz.prog 29 := Enters.of Tryz.func29 (by kernel_rfl) (by kernel_rfl)
theorem en30 : Enters Tryz.prog 30 := Enters.of Tryz.func30 (by kernel_rfl) (by kernel_rfl)
theorem en31 : Enters Tryz.prog 31 := Enters.of Tryz.func31 (by kernel_rfl) (by kernel_rfl)
theorem en32 : Enters Tryz.prog 32 := Enters.of Tryz.func32 (by kernel_rfl) (by kernel_rfl)
theorem en33 : Enters Tryz.prog 33 := Enters.of Tryz.func33 (by kernel_rfl) (by kernel_rfl)
theorem en34 : Enters Tryz.prog 34 := Enters.of Tryz.func34 (by kernel_rfl) (by kernel_rfl)
theorem en35 : Enters Tryz.prog 35 := Enters.of Tryz.func35 (by kernel_rfl) (by kernel_rfl)
theorem en36 : Enters Tryz.prog 36 := Enters.of Tryz.func36 (by kernel_rfl) (by kernel_rfl)
theorem en37 : Enters Tryz.prog 37 := Enters.of Tryz.func37 (by kernel_rfl) (by kernel_rfl)
theorem en38 : Enters Tryz.prog 38 := Enters.of Tryz.func38 (by kernel_rfl) (by kernel_rfl)
theorem en39 : Enters Tryz.prog 39 := Enters.of Tryz.func39 (by kernel_rfl) (by kernel_rfl)
theorem en40 : Enters Tryz.prog 40 := Enters.of Tryz.func40 (by kernel_rfl) (by kernel_rfl)
theorem en41 : Enters Tryz.prog 41 := Enters.of Tryz.func41 (by kernel_rfl) (by kernel_rfl)
theorem en42 : Enters Tryz.prog 42 := Enters.of Tryz.func42 (by kernel_rfl) (by kernel_rfl)
theorem en43 : Enters Tryz.prog 43 := Enters.of Tryz.func43 (by kernel_rfl) (by kernel_rfl)
theorem en44 : Enters Tryz.prog 44 := Enters.of Tryz.func44 (by kernel_rfl) (by kernel_rfl)
theorem en45 : Enters Tryz.prog 45 := Enters.of Tryz.func45 (by kernel_rfl) (by kernel_rfl)
theorem en46 : Enters Tryz.prog 46 := Enters.of Tryz.func46 (by kernel_rfl) (by kernel_rfl)
theorem en47 : Enters Tryz.prog 47 := Enters.of Tryz.func47 (by kernel_rfl) (by kernel_rfl)
theorem en48 : Enters Tryz.prog 48 := Enters.of Tryz.func48 (by kernel_rfl) (by kernel_rfl)
theorem en49 : Enters Tryz.prog 49 := Enters.of Tryz.func49 (by kernel_rfl) (by kernel_rfl)
theorem en50 : Enters Tryz.prog 50 := Enters.of Tryz.func50 (by kernel_rfl) (by kernel_rfl)
theorem en51 : Enters Tryz.prog 51 := Enters.of Tryz.func51 (by kernel_rfl) (by kernel_rfl)
theorem en52 : Enters Tryz.prog 52 := Enters.of Tryz.func52 (by kernel_rfl) (by kernel_rfl)
theorem en53 : Enters Tryz.prog 53 := Enters.of Tryz.func53 (by kernel_rfl) (by kernel_rfl)
theorem en54 : Enters Tryz.prog 54 := Enters.of Tryz.func54 (by kernel_rfl) (by kernel_rfl)
theorem en55 : Enters Tryz.prog 55 := Enters.of Tryz.func55 (by kernel_rfl) (by kernel_rfl)
theorem en56 : Enters Tryz.prog 56 := Enters.of Tryz.func56 (by kernel_rfl) (by kernel_rfl)
theorem en57 : Enters Tryz.prog 57 := Enters.of Tryz.func57 (by kernel_rfl) (by kernel_rfl)
theorem en58 : Enters Tryz.prog 58 := Enters.of Tryz.func58 (by kernel_rfl) (by kernel_rfl)
theorem en59 : Enters Tryz.prog 59 := Enters.of Tryz.func59 (by kernel_rfl) (by kernel_rfl)
theorem en60 : Enters Tryz.prog 60 := Enters.of Tryz.func60 (by kernel_rfl) (by kernel_rfl)
theorem en61 : Enters Tryz.prog 61 := Enters.of Tryz.func61 (by kernel_rfl) (by kernel_rfl)
theorem en62 : Enters Tryz.prog 62 := Enters.of Tryz.func62 (by kernel_rfl) (by kernel_rfl)
theorem en63 : Enters Tryz.prog 63 := Enters.of Tryz.func63 (by kernel_rfl) (by kernel_rfl)
theorem en64 : Enters Tryz.prog 64 := Enters.of Tryz.func64 (by kernel_rfl) (by kernel_rfl)
theorem en65 : Enters Tryz.prog 65 := Enters.of Tryz.func65 (by kernel_rfl) (by kernel_rfl)
theorem en66 : Enters Tryz.prog 66 := Enters.of Tryz.func66 (by kernel_rfl) (by kernel_rfl)
theorem en67 : Enters Tryz.prog 67 := Enters.of Tryz.func67 (by kernel_rfl) (by kernel_rfl)
theorem en68 : Enters Tryz.prog 68 := Enters.of Tryz.func68 (by kernel_rfl) (by kernel_rfl)
theorem en69 : Enters Tryz.prog 69 := Enters.of Tryz.func69 (by kernel_rfl) (by kernel_rfl)
theorem en70 : Enters Tryz.prog 70 := Enters.of Tryz.func70 (by kernel_rfl) (by kernel_rfl)
theorem en71 : Enters Tryz.prog 71 := Enters.of Tryz.func71 (by kernel_rfl) (by kernel_rfl)
theorem en72 : Enters Tryz.prog 72 := Enters.of Tryz.func72 (by kernel_rfl) (by kernel_rfl)
theorem en73 : Enters Tryz.prog 73 := Enters.of Tryz.func73 (by kernel_rfl) (by kernel_rfl)
theorem en74 : Enters Tryz.prog 74 := Enters.of Tryz.func74 (by kernel_rfl) (by kernel_rfl)
theorem en75 : Enters Tryz.prog 75 := Enters.of Tryz.func75 (by kernel_rfl) (by kernel_rfl)
theorem en76 : Enters Tryz.prog 76 := Enters.of Tryz.func76 (by kernel_rfl) (by kernel_rfl)
theorem en77 : Enters Tryz.prog 77 := Enters.of Tryz.func77 (by kernel_rfl) (by kernel_rfl)
theorem en78 : Enters Tryz.prog 78 := Enters.of Tryz.func78 (by kernel_rfl) (by kernel_rfl)
theorem en79 : Enters Tryz.prog 79 := Enters.of Tryz.func79 (by kernel_rfl) (by kernel_rfl)
theorem en80 : Enters Tryz.prog 80 := Enters.of Tryz.func80 (by kernel_rfl) (by kernel_rfl)
theorem en81 : Enters Tryz.prog 81 := Enters.of Tryz.func81 (by kernel_rfl) (by kernel_rfl)
theorem en82 : Enters Tryz.prog 82 := Enters.of Tryz.func82 (by kernel_rfl) (by kernel_rfl)
theorem en83 : Enters Tryz.prog 83 := Enters.of Tryz.func83 (by kernel_rfl) (by kernel_rfl)
theorem en84 : Enters Tryz.prog 84 := Enters.of Tryz.func84 (by kernel_rfl) (by kernel_rfl)
theorem en85 : Enters Tryz.prog 85 := Enters.of Tryz.func85 (by kernel_rfl) (by kernel_rfl)
theorem en86 : Enters Tryz.prog 86 := Enters.of Tryz.func86 (by kernel_rfl) (by kernel_rfl)
theorem en87 : Enters Tryz.prog 87 := Enters.of Tryz.func87 (by kernel_rfl) (by kernel_rfl)
theorem en88 : Enters Tryz.prog 88 := Enters.of Tryz.func88 (by kernel_rfl) (by kernel_rfl)
theorem en89 : Enters Tryz.prog 89 := Enters.of Tryz.func89 (by kernel_rfl) (by kernel_rfl)
theorem en90 : Enters Tryz.prog 90 := Enters.of Tryz.func90 (by kernel_rfl) (by kernel_rfl)
theorem en91 : Enters Tryz.prog 91 := Enters.of Tryz.func91 (by kernel_rfl) (by kernel_rfl)
theorem en92 : Enters Tryz.prog 92 := Enters.of Tryz.func92 (by kernel_rfl) (by kernel_rfl)
theorem en93 : Enters Tryz.prog 93 := Enters.of Tryz.func93 (by kernel_rfl) (by kernel_rfl)
theorem en94 : Enters Tryz.prog 94 := Enters.of Tryz.func94 (by kernel_rfl) (by kernel_rfl)
theorem en95 : Enters Tryz.prog 95 := Enters.of Tryz.func95 (by kernel_rfl) (by kernel_rfl)
theorem en96 : Enters Tryz.prog 96 := Enters.of Tryz.func96 (by kernel_rfl) (by kernel_rfl)
theorem en97 : Enters Tryz.prog 97 := Enters.of Tryz.func97 (by kernel_rfl) (by kernel_rfl)
theorem en98 : Enters Tryz.prog 98 := Enters.of Tryz.func98 (by kernel_rfl) (by kernel_rfl)
theorem en99 : Enters Tryz.prog 99 := Enters.of Tryz.func99 (by kernel_rfl) (by kernel_rfl)
theorem en100 : Enters Tryz.prog 100 := Enters.of Tryz.func100 (by kernel_rfl) (by kernel_rfl)
theorem en101 : Enters Tryz.prog 101 := Enters.of Tryz.func101 (by kernel_rfl) (by kernel_rfl)
theorem en102 : Enters Tryz.prog 102 := Enters.of Tryz.func102 (by kernel_rfl) (by kernel_rfl)
theorem en103 : Enters Tryz.prog 103 := Enters.of Tryz.func103 (by kernel_rfl) (by kernel_rfl)
theorem en104 : Enters Tryz.prog 104 := Enters.of Tryz.func104 (by kernel_rfl) (by kernel_rfl)
theorem en105 : Enters Tryz.prog 105 := Enters.of Tryz.func105 (by kernel_rfl) (by kernel_rfl)
theorem en106 : Enters Tryz.prog 106 := Enters.of Tryz.func106 (by kernel_rfl) (by kernel_rfl)
theorem en107 : Enters Tryz.prog 107 := Enters.of Tryz.func107 (by kernel_rfl) (by kernel_rfl)
theorem en108 : Enters Tryz.prog 108 := Enters.of Tryz.func108 (by kernel_rfl) (by kernel_rfl)
theorem en109 : Enters Tryz.prog 109 := Enters.of Tryz.func109 (by kernel_rfl) (by kernel_rfl)
theorem en110 : Enters Tryz.prog 110 := Enters.of Tryz.func110 (by kernel_rfl) (by kernel_rfl)
theorem en111 : Enters Tryz.prog 111 := Enters.of Tryz.func111 (by kernel_rfl) (by kernel_rfl)
theorem en112 : Enters Tryz.prog 112 := Enters.of Tryz.func112 (by kernel_rfl) (by kernel_rfl)
theorem en113 : Enters Tryz.prog 113 := Enters.of Tryz.func113 (by kernel_rfl) (by kernel_rfl)
theorem en114 : Enters Tryz.prog 114 := Enters.of Tryz.func114 (by kernel_rfl) (by kernel_rfl)
theorem en115 : Enters Tryz.prog 115 := Enters.of Tryz.func115 (by kernel_rfl) (by kernel_rfl)
theorem en116 : Enters Tryz.prog 116 := Enters.of Tryz.func116 (by kernel_rfl) (by kernel_rfl)
theorem en117 : Enters Tryz.prog 117 := Enters.of Tryz.func117 (by kernel_rfl) (by kernel_rfl)
theorem en118 : Enters Tryz.prog 118 := Enters.of Tryz.func118 (by kernel_rfl) (by kernel_rfl)
theorem en119 : Enters Tryz.prog 119 := Enters.of Tryz.func119 (by kernel_rfl) (by kernel_rfl)
theorem en120 : Enters Tryz.prog 120 := Enters.of Tryz.func120 (by kernel_rfl) (by kernel_rfl)
theorem en121 : Enters Tryz.prog 121 := Enters.of Tryz.func121 (by kernel_rfl) (by kernel_rfl)
theorem en122 : Enters Tryz.prog 122 := Enters.of Tryz.func122 (by kernel_rfl) (by kernel_rfl)
theorem en123 : Enters Tryz.prog 123 := Enters.of Tryz.func123 (by kernel_rfl) (by kernel_rfl)
theorem en124 : Enters Tryz.prog 124 := Enters.of Tryz.func124 (by kernel_rfl) (by kernel_rfl)
theorem en125 : Enters Tryz.prog 125 := Enters.of Tryz.func125 (by kernel_rfl) (by kernel_rfl)
theorem en126 : Enters Tryz.prog 126 := Enters.of Tryz.func126 (by kernel_rfl) (by kernel_rfl)
theorem en127 : Enters Tryz.prog 127 := Enters.of Tryz.func127 (by kernel_rfl) (by kernel_rfl)
theorem en128 : Enters Tryz.prog 128 := Enters.of Tryz.func128 (by kernel_rfl) (by kernel_rfl)
theorem en129 : Enters Tryz.prog 129 := Enters.of Tryz.func129 (by kernel_rfl) (by kernel_rfl)
theorem en130 : Enters Tryz.prog 130 := Enters.of Tryz.func130 (by kernel_rfl) (by kernel_rfl)
theorem en131 : Enters Tryz.prog 131 := Enters.of Tryz.func131 (by kernel_rfl) (by kernel_rfl)
theorem en132 : Enters Tryz.prog 132 := Enters.of Tryz.func132 (by kernel_rfl) (by kernel_rfl)
theorem en133 : Enters Tryz.prog 133 := Enters.of Tryz.func133 (by kernel_rfl) (by kernel_rfl)
theorem en134 : Enters Tryz.prog 134 := Enters.of Tryz.func134 (by kernel_rfl) (by kernel_rfl)
theorem en135 : Enters Tryz.prog 135 := Enters.of Tryz.func135 (by kernel_rfl) (by kernel_rfl)
theorem en136 : Enters Tryz.prog 136 := Enters.of Tryz.func136 (by kernel_rfl) (by kernel_rfl)
theorem en137 : Enters Tryz.prog 137 := Enters.of Tryz.func137 (by kernel_rfl) (by kernel_rfl)
theorem en138 : Enters Tryz.prog 138 := Enters.of Tryz.func138 (by kernel_rfl) (by kernel_rfl)
theorem en139 : Enters Tryz.prog 139 := Enters.of Tryz.func139 (by kernel_rfl) (by kernel_rfl)
theorem en140 : Enters Tryz.prog 140 := Enters.of Tryz.func140 (by kernel_rfl) (by kernel_rfl)
theorem en141 : Enters Tryz.prog 141 := Enters.of Tryz.func141 (by kernel_rfl) (by kernel_rfl)
theorem en142 : Enters Tryz.prog 142 := Enters.of Tryz.func142 (by kernel_rfl) (by kernel_rfl)
theorem en143 : Enters Tryz.prog 143 := Enters.of Tryz.func143 (by kernel_rfl) (by kernel_rfl)
theorem en144 : Enters Tryz.prog 144 := Enters.of Tryz.func144 (by kernel_rfl) (by kernel_rfl)
theorem en145 : Enters Tryz.prog 145 := Enters.of Tryz.func145 (by kernel_rfl) (by kernel_rfl)
theorem en146 : Enters Tryz.prog 146 := Enters.of Tryz.func146 (by kernel_rfl) (by kernel_rfl)
theorem en147 : Enters Tryz.prog 147 := Enters.of Tryz.func147 (by kernel_rfl) (by kernel_rfl)
theorem en148 : Enters Tryz.prog 148 := Enters.of Tryz.func148 (by kernel_rfl) (by kernel_rfl)
theorem en149 : Enters Tryz.prog 149 := Enters.of Tryz.func149 (by kernel_rfl) (by kernel_rfl)
theorem en150 : Enters Tryz.prog 150 := Enters.of Tryz.func150 (by kernel_rfl) (by kernel_rfl)
theorem en151 : Enters Tryz.prog 151 := Enters.of Tryz.func151 (by kernel_rfl) (by kernel_rfl)
theorem en152 : Enters Tryz.prog 152 := Enters.of Tryz.func152 (by kernel_rfl) (by kernel_rfl)
theorem en153 : Enters Tryz.prog 153 := Enters.of Tryz.func153 (by kernel_rfl) (by kernel_rfl)
theorem en154 : Enters Tryz.prog 154 := Enters.of Tryz.func154 (by kernel_rfl) (by kernel_rfl)
theorem en155 : Enters Tryz.prog 155 := Enters.of Tryz.func155 (by kernel_rfl) (by kernel_rfl)
theorem en156 : Enters Tryz.prog 156 := Enters.of Tryz.func156 (by kernel_rfl) (by kernel_rfl)
theorem en157 : Enters Tryz.prog 157 := Enters.of Tryz.func157 (by kernel_rfl) (by kernel_rfl)
theorem en158 : Enters Tryz.prog 158 := Enters.of Tryz.func158 (by kernel_rfl) (by kernel_rfl)
theorem en159 : Enters Tryz.prog 159 := Enters.of Tryz.func159 (by kernel_rfl) (by kernel_rfl)
theorem en160 : Enters Tryz.prog 160 := Enters.of Tryz.func160 (by kernel_rfl) (by kernel_rfl)
theorem en161 : Enters Tryz.prog 161 := Enters.of Tryz.func161 (by kernel_rfl) (by kernel_rfl)
theorem en162 : Enters Tryz.prog 162 := Enters.of Tryz.func162 (by kernel_rfl) (by kernel_rfl)
theorem en163 : Enters Tryz.prog 163 := Enters.of Tryz.func163 (by kernel_rfl) (by kernel_rfl)
theorem en164 : Enters Tryz.prog 164 := Enters.of Tryz.func164 (by kernel_rfl) (by kernel_rfl)
theorem en165 : Enters Tryz.prog 165 := Enters.of Tryz.func165 (by kernel_rfl) (by kernel_rfl)
theorem en166 : Enters Tryz.prog 166 := Enters.of Tryz.func166 (by kernel_rfl) (by kernel_rfl)
theorem en167 : Enters Tryz.prog 167 := Enters.of Tryz.func167 (by kernel_rfl) (by kernel_rfl)
theorem en168 : Enters Tryz.prog 168 := Enters.of Tryz.func168 (by kernel_rfl) (by kernel_rfl)
theorem en169 : Enters Tryz.prog 169 := Enters.of Tryz.func169 (by kernel_rfl) (by kernel_rfl)
theorem en170 : Enters Tryz.prog 170 := Enters.of Tryz.func170 (by kernel_rfl) (by kernel_rfl)
theorem en171 : Enters Tryz.prog 171 := Enters.of Tryz.func171 (by kernel_rfl) (by kernel_rfl)
theorem en172 : Enters Tryz.prog 172 := Enters.of Tryz.func172 (by kernel_rfl) (by kernel_rfl)
theorem en173 : Enters Tryz.prog 173 := Enters.of Tryz.func173 (by kernel_rfl) (by kernel_rfl)
theorem en174 : Enters Tryz.prog 174 := Enters.of Tryz.func174 (by kernel_rfl) (by kernel_rfl)
theorem en175 : Enters Tryz.prog 175 := Enters.of Tryz.func175 (by kernel_rfl) (by kernel_rfl)
theorem en176 : Enters Tryz.prog 176 := Enters.of Tryz.func176 (by kernel_rfl) (by kernel_rfl)
theorem en177 : Enters Tryz.prog 177 := Enters.of Tryz.func177 (by kernel_rfl) (by kernel_rfl)
theorem en178 : Enters Tryz.prog 178 := Enters.of Tryz.func178 (by kernel_rfl) (by kernel_rfl)
theorem en179 : Enters Tryz.prog 179 := Enters.of Tryz.func179 (by kernel_rfl) (by kernel_rfl)
theorem en180 : Enters Tryz.prog 180 := Enters.of Tryz.func180 (by kernel_rfl) (by kernel_rfl)
theorem en181 : Enters Tryz.prog 181 := Enters.of Tryz.func181 (by kernel_rfl) (by kernel_rfl)
theorem en182 : Enters Tryz.prog 182 := Enters.of Tryz.func182 (by kernel_rfl) (by kernel_rfl)
theorem en183 : Enters Tryz.prog 183 := Enters.of Tryz.func183 (by kernel_rfl) (by kernel_rfl)
theorem en184 : Enters Tryz.prog 184 := Enters.of Tryz.func184 (by kernel_rfl) (by kernel_rfl)
theorem en185 : Enters Tryz.prog 185 := Enters.of Tryz.func185 (by kernel_rfl) (by kernel_rfl)
theorem en186 : Enters Tryz.prog 186 := Enters.of Tryz.func186 (by kernel_rfl) (by kernel_rfl)
theorem en187 : Enters Tryz.prog 187 := Enters.of Tryz.func187 (by kernel_rfl) (by kernel_rfl)
theorem en188 : Enters Tryz.prog 188 := Enters.of Tryz.func188 (by kernel_rfl) (by kernel_rfl)
theorem en189 : Enters Tryz.prog 189 := Enters.of Tryz.func189 (by kernel_rfl) (by kernel_rfl)
theorem en190 : Enters Tryz.prog 190 := Enters.of Tryz.func190 (by kernel_rfl) (by kernel_rfl)
theorem en191 : Enters Tryz.prog 191 := Enters.of Tryz.func191 (by kernel_rfl) (by kernel_rfl)
theorem en192 : Enters Tryz.prog 192 := Enters.of Tryz.func192 (by kernel_rfl) (by kernel_rfl)
theorem en193 : Enters Tryz.prog 193 := Enters.of Tryz.func193 (by kernel_rfl) (by kernel_rfl)
theorem en194 : Enters Tryz.prog 194 := Enters.of Tryz.func194 (by kernel_rfl) (by kernel_rfl)
theorem en195 : Enters Tryz.prog 195 := Enters.of Tryz.func195 (by kernel_rfl) (by kernel_rfl)
theorem en196 : Enters Tryz.prog 196 := Enters.of Tryz.func196 (by kernel_rfl) (by kernel_rfl)
theorem en197 : Enters Tryz.prog 197 := Enters.of Tryz.func197 (by kernel_rfl) (by kernel_rfl)
theorem en198 : Enters Tryz.prog 198 := Enters.of Tryz.func198 (by kernel_rfl) (by kernel_rfl)
theorem en199 : Enters Tryz.prog 199 := Enters.of Tryz.func199 (by kernel_rfl) (by kernel_rfl)
theorem en200 : Enters Tryz.prog 200 := Enters.of Tryz.func200 (by kernel_rfl) (by kernel_rfl)
theorem en201 : Enters Tryz.prog 201 := Enters.of Tryz.func201 (by kernel_rfl) (by kernel_rfl)
theorem en202 : Enters Tryz.prog 202 := Enters.of Tryz.func202 (by kernel_rfl) (by kernel_rfl)
theorem en203 : Enters Tryz.prog 203 := Enters.of Tryz.func203 (by kernel_rfl) (by kernel_rfl)
theorem en204 : Enters Tryz.prog 204 := Enters.of Tryz.func204 (by kernel_rfl) (by kernel_rfl)
theorem en205 : Enters Tryz.prog 205 := Enters.of Tryz.func205 (by kernel_rfl) (by kernel_rfl)
theorem en206 : Enters Tryz.prog 206 := Enters.of Tryz.func206 (by kernel_rfl) (by kernel_rfl)
theorem en207 : Enters Tryz.prog 207 := Enters.of Tryz.func207 (by kernel_rfl) (by kernel_rfl)
theorem en208 : Enters Tryz.prog 208 := Enters.of Tryz.func208 (by kernel_rfl) (by kernel_rfl)
theorem en209 : Enters Tryz.prog 209 := Enters.of Tryz.func209 (by kernel_rfl) (by kernel_rfl)
theorem en210 : Enters Tryz.prog 210 := Enters.of Tryz.func210 (by kernel_rfl) (by kernel_rfl)
theorem en211 : Enters Tryz.prog 211 := Enters.of Tryz.func211 (by kernel_rfl) (by kernel_rfl)
theorem en212 : Enters Tryz.prog 212 := Enters.of Tryz.func212 (by kernel_rfl) (by kernel_rfl)
theorem en213 : Enters Tryz.prog 213 := Enters.of Tryz.func213 (by kernel_rfl) (by kernel_rfl)
theorem en214 : Enters Tryz.prog 214 := Enters.of Tryz.func214 (by kernel_rfl) (by kernel_rfl)
theorem en215 : Enters Tryz.prog 215 := Enters.of Tryz.func215 (by kernel_rfl) (by kernel_rfl)
theorem en216 : Enters Tryz.prog 216 := Enters.of Tryz.func216 (by kernel_rfl) (by kernel_rfl)
theorem en217 : Enters Tryz.prog 217 := Enters.of Tryz.func217 (by kernel_rfl) (by kernel_rfl)
theorem en218 : Enters Tryz.prog 218 := Enters.of Tryz.func218 (by kernel_rfl) (by kernel_rfl)
theorem en219 : Enters Tryz.prog 219 := Enters.of Tryz.func219 (by kernel_rfl) (by kernel_rfl)
theorem en220 : Enters Tryz.prog 220 := Enters.of Tryz.func220 (by kernel_rfl) (by kernel_rfl)
theorem en221 : Enters Tryz.prog 221 := Enters.of Tryz.func221 (by kernel_rfl) (by kernel_rfl)
theorem en222 : Enters Tryz.prog 222 := Enters.of Tryz.func222 (by kernel_rfl) (by kernel_rfl)
theorem en223 : Enters Tryz.prog 223 := Enters.of Tryz.func223 (by kernel_rfl) (by kernel_rfl)
theorem en224 : Enters Tryz.prog 224 := Enters.of Tryz.func224 (by kernel_rfl) (by kernel_rfl)
theorem en225 : Enters Tryz.prog 225 := Enters.of Tryz.func225 (by kernel_rfl) (by kernel_rfl)
theorem en226 : Enters Tryz.prog 226 := Enters.of Tryz.func226 (by kernel_rfl) (by kernel_rfl)
theorem en227 : Enters Tryz.prog 227 := Enters.of Tryz.func227 (by kernel_rfl) (by kernel_rfl)
theorem en228 : Enters Tryz.prog 228 := Enters.of Tryz.func228 (by kernel_rfl) (by kernel_rfl)
theorem en229 : Enters Tryz.prog 229 := Enters.of Tryz.func229 (by kernel_rfl) (by kernel_rfl)
theorem en230 : Enters Tryz.prog 230 := Enters.of Tryz.func230 (by kernel_rfl) (by kernel_rfl)
theorem en231 : Enters Tryz.prog 231 := Enters.of Tryz.func231 (by kernel_rfl) (by kernel_rfl)
theorem en232 : Enters Tryz.prog 232 := Enters.of Tryz.func232 (by kernel_rfl) (by kernel_rfl)
theorem en233 : Enters Tryz.prog 233 := Enters.of Tryz.func233 (by kernel_rfl) (by kernel_rfl)
theorem en234 : Enters Tryz.prog 234 := Enters.of Tryz.func234 (by kernel_rfl) (by kernel_rfl)
theorem en236 : Enters Tryz.prog 236 := Enters.of Tryz.func236 (by kernel_rfl) (by kernel_rfl)
theorem en240 : Enters Tryz.prog 240 := Enters.of Tryz.func240 (by kernel_rfl) (by kernel_rfl)
theorem en241 : Enters Tryz.prog 241 := Enters.of Tryz.func241 (by kernel_rfl) (by kernel_rfl)
theorem en242 : Enters Tryz.prog 242 := Enters.of Tryz.func242 (by kernel_rfl) (by kernel_rfl)
theorem en243 : Enters Tryz.prog 243 := Enters.of Tryz.func243 (by kernel_rfl) (by kernel_rfl)
theorem en244 : Enters Tryz.prog 244 := Enters.of Tryz.func244 (by kernel_rfl) (by kernel_rfl)
theorem en245 : Enters Tryz.prog 245 := Enters.of Tryz.func245 (by kernel_rfl) (by kernel_rfl)
theorem en246 : Enters Tryz.prog 246 := Enters.of Tryz.func246 (by kernel_rfl) (by kernel_rfl)
theorem en247 : Enters Tryz.prog 247 := Enters.of Tryz.func247 (by kernel_rfl) (by kernel_rfl)
theorem en248 : Enters Tryz.prog 248 := Enters.of Tryz.func248 (by kernel_rfl) (by kernel_rfl)
theorem en249 : Enters Tryz.prog 249 := Enters.of Tryz.func249 (by kernel_rfl) (by kernel_rfl)
theorem en250 : Enters Tryz.prog 250 := Enters.of Tryz.func250 (by kernel_rfl) (by kernel_rfl)
theorem en251 : Enters Tryz.prog 251 := Enters.of Tryz.func251 (by kernel_rfl) (by kernel_rfl)
theorem en252 : Enters Tryz.prog 252 := Enters.of Tryz.func252 (by kernel_rfl) (by kernel_rfl)
theorem en255 : Enters Tryz.prog 255 := Enters.of Tryz.func255 (by kernel_rfl) (by kernel_rfl)
theorem en256 : Enters Tryz.prog 256 := Enters.of Tryz.func256 (by kernel_rfl) (by kernel_rfl)
theorem en257 : Enters Tryz.prog 257 := Enters.of Tryz.func257 (by kernel_rfl) (by kernel_rfl)
theorem en258 : Enters Tryz.prog 258 := Enters.of Tryz.func258 (by kernel_rfl) (by kernel_rfl)
theorem en259 : Enters Tryz.prog 259 := Enters.of Tryz.func259 (by kernel_rfl) (by kernel_rfl)
theorem en260 : Enters Tryz.prog 260 := Enters.of Tryz.func260 (by kernel_rfl) (by kernel_rfl)
theorem en261 : Enters Tryz.prog 261 := Enters.of Tryz.func261 (by kernel_rfl) (by kernel_rfl)
theorem en262 : Enters Tryz.prog 262 := Enters.of Tryz.func262 (by kernel_rfl) (by kernel_rfl)
theorem en263 : Enters Tryz.prog 263 := Enters.of Tryz.func263 (by kernel_rfl) (by kernel_rfl)
theorem en264 : Enters Tryz.prog 264 := Enters.of Tryz.func264 (by kernel_rfl) (by kernel_rfl)
theorem en265 : Enters Tryz.prog 265 := Enters.of Tryz.func265 (by kernel_rfl) (by kernel_rfl)
theorem en266 : Enters Tryz.prog 266 := Enters.of Tryz.func266 (by kernel_rfl) (by kernel_rfl)
theorem en267 : Enters Tryz.prog 267 := Enters.of Tryz.func267 (by kernel_rfl) (by kernel_rfl)
theorem en268 : Enters Tryz.prog 268 := Enters.of Tryz.func268 (by kernel_rfl) (by kernel_rfl)
theorem en269 : Enters Tryz.prog 269 := Enters.of Tryz.func269 (by kernel_rfl) (by kernel_rfl)
theorem en272 : Enters Tryz.prog 272 := Enters.of Tryz.func272 (by kernel_rfl) (by kernel_rfl)
theorem en273 : Enters Tryz.prog 273 := Enters.of Tryz.func273 (by kernel_rfl) (by kernel_rfl)
theorem en274 : Enters Tryz.prog 274 := Enters.of Tryz.func274 (by kernel_rfl) (by kernel_rfl)
theorem en275 : Enters Tryz.prog 275 := Enters.of Tryz.func275 (by kernel_rfl) (by kernel_rfl)
theorem en276 : Enters Tryz.prog 276 := Enters.of Tryz.func276 (by kernel_rfl) (by kernel_rfl)
theorem en277 : Enters Tryz.prog 277 := Enters.of Tryz.func277 (by kernel_rfl) (by kernel_rfl)
theorem en278 : Enters Tryz.prog 278 := Enters.of Tryz.func278 (by kernel_rfl) (by kernel_rfl)
theorem en279 : Enters Tryz.prog 279 := Enters.of Tryz.func279 (by kernel_rfl) (by kernel_rfl)
theorem en280 : Enters Tryz.prog 280 := Enters.of Tryz.func280 (by kernel_rfl) (by kernel_rfl)
theorem en281 : Enters Tryz.prog 281 := Enters.of Tryz.func281 (by kernel_rfl) (by kernel_rfl)
theorem en282 : Enters Tryz.prog 282 := Enters.of Tryz.func282 (by kernel_rfl) (by kernel_rfl)
theorem en283 : Enters Tryz.prog 283 := Enters.of Tryz.func283 (by kernel_rfl) (by kernel_rfl)
theorem en284 : Enters Tryz.prog 284 := Enters.of Tryz.func284 (by kernel_rfl) (by kernel_rfl)
theorem en285 : Enters Tryz.prog 285 := Enters.of Tryz.func285 (by kernel_rfl) (by kernel_rfl)
theorem en286 : Enters Tryz.prog 286 := Enters.of Tryz.func286 (by kernel_rfl) (by kernel_rfl)
theorem en287 : Enters Tryz.prog 287 := Enters.of Tryz.func287 (by kernel_rfl) (by kernel_rfl)
theorem en288 : Enters Tryz.prog 288 := Enters.of Tryz.func288 (by kernel_rfl) (by kernel_rfl)
theorem en289 : Enters Tryz.prog 289 := Enters.of Tryz.func289 (by kernel_rfl) (by kernel_rfl)
theorem en290 : Enters Tryz.prog 290 := Enters.of Tryz.func290 (by kernel_rfl) (by kernel_rfl)
theorem en291 : Enters Tryz.prog 291 := Enters.of Tryz.func291 (by kernel_rfl) (by kernel_rfl)
theorem en292 : Enters Tryz.prog 292 := Enters.of Tryz.func292 (by kernel_rfl) (by kernel_rfl)
theorem en293 : Enters Tryz.prog 293 := Enters.of Tryz.func293 (by kernel_rfl) (by kernel_rfl)
theorem en294 : Enters Tryz.prog 294 := Enters.of Tryz.func294 (by kernel_rfl) (by kernel_rfl)
theorem en295 : Enters Tryz.prog 295 := Enters.of Tryz.func295 (by kernel_rfl) (by kernel_rfl)
theorem en296 : Enters Tryz.prog 296 := Enters.of Tryz.func296 (by kernel_rfl) (by kernel_rfl)
theorem en297 : Enters Tryz.prog 297 := Enters.of Tryz.func297 (by kernel_rfl) (by kernel_rfl)
theorem en298 : Enters Tryz.prog 298 := Enters.of Tryz.func298 (by kernel_rfl) (by kernel_rfl)
theorem en299 : Enters Tryz.prog 299 := Enters.of Tryz.func299 (by kernel_rfl) (by kernel_rfl)
theorem en300 : Enters Tryz.prog 300 := Enters.of Tryz.func300 (by kernel_rfl) (by kernel_rfl)
theorem en301 : Enters Tryz.prog 301 := Enters.of Tryz.func301 (by kernel_rfl) (by kernel_rfl)
theorem en302 : Enters Tryz.prog 302 := Enters.of Tryz.func302 (by kernel_rfl) (by kernel_rfl)
theorem en303 : Enters Tryz.prog 303 := Enters.of Tryz.func303 (by kernel_rfl) (by kernel_rfl)
theorem en304 : Enters Tryz.prog 304 := Enters.of Tryz.func304 (by kernel_rfl) (by kernel_rfl)
theorem en305 : Enters Tryz.prog 305 := Enters.of Tryz.func305 (by kernel_rfl) (by kernel_rfl)
theorem en306 : Enters Tryz.prog 306 := Enters.of Tryz.func306 (by kernel_rfl) (by kernel_rfl)
theorem en307 : Enters Tryz.prog 307 := Enters.of Tryz.func307 (by kernel_rfl) (by kernel_rfl)
theorem en308 : Enters Tryz.prog 308 := Enters.of Tryz.func308 (by kernel_rfl) (by kernel_rfl)
theorem en309 : Enters Tryz.prog 309 := Enters.of Tryz.func309 (by kernel_rfl) (by kernel_rfl)
theorem en310 : Enters Tryz.prog 310 := Enters.of Tryz.func310 (by kernel_rfl) (by kernel_rfl)
theorem en311 : Enters Tryz.prog 311 := Enters.of Tryz.func311 (by kernel_rfl) (by kernel_rfl)
theorem en312 : Enters Tryz.prog 312 := Enters.of Tryz.func312 (by kernel_rfl) (by kernel_rfl)
theorem en313 : Enters Tryz.prog 313 := Enters.of Tryz.func313 (by kernel_rfl) (by kernel_rfl)
theorem en314 : Enters Tryz.prog 314 := Enters.of Tryz.func314 (by kernel_rfl) (by kernel_rfl)
theorem en315 : Enters Tryz.prog 315 := Enters.of Tryz.func315 (by kernel_rfl) (by kernel_rfl)
theorem en316 : Enters Tryz.prog 316 := Enters.of Tryz.func316 (by kernel_rfl) (by kernel_rfl)
theorem en317 : Enters Tryz.prog 317 := Enters.of Tryz.func317 (by kernel_rfl) (by kernel_rfl)
theorem en318 : Enters Tryz.prog 318 := Enters.of Tryz.func318 (by kernel_rfl) (by kernel_rfl)
theorem en319 : Enters Tryz.prog 319 := Enters.of Tryz.func319 (by kernel_rfl) (by kernel_rfl)
theorem en320 : Enters Tryz.prog 320 := Enters.of Tryz.func320 (by kernel_rfl) (by kernel_rfl)
theorem en321 : Enters Tryz.prog 321 := Enters.of Tryz.func321 (by kernel_rfl) (by kernel_rfl)
theorem en322 : Enters Tryz.prog 322 := Enters.of Tryz.func322 (by kernel_rfl) (by kernel_rfl)
theorem en323 : Enters Tryz.prog 323 := Enters.of Tryz.func323 (by kernel_rfl) (by kernel_rfl)
theorem en324 : Enters Tryz.prog 324 := Enters.of Tryz.func324 (by kernel_rfl) (by kernel_rfl)
theorem en325 : Enters Tryz.prog 325 := Enters.of Tryz.func325 (by kernel_rfl) (by kernel_rfl)
theorem en326 : Enters Tryz.prog 326 := Enters.of Tryz.func326 (by kernel_rfl) (by kernel_rfl)
theorem en327 : Enters Tryz.prog 327 := Enters.of Tryz.func327 (by kernel_rfl) (by kernel_rfl)
theorem en328 : Enters Tryz.prog 328 := Enters.of Tryz.func328 (by kernel_rfl) (by kernel_rfl)
theorem en329 : Enters Tryz.prog 329 := Enters.of Tryz.func329 (by kernel_rfl) (by kernel_rfl)
theorem en331 : Enters Tryz.prog 331 := Enters.of Tryz.func331 (by kernel_rfl) (by kernel_rfl)
theorem en332 : Enters Tryz.prog 332 := Enters.of Tryz.func332 (by kernel_rfl) (by kernel_rfl)
theorem en333 : Enters Tryz.prog 333 := Enters.of Tryz.func333 (by kernel_rfl) (by kernel_rfl)
theorem en334 : Enters Tryz.prog 334 := Enters.of Tryz.func334 (by kernel_rfl) (by kernel_rfl)
theorem en335 : Enters Tryz.prog 335 := Enters.of Tryz.func335 (by kernel_rfl) (by kernel_rfl)
theorem en337 : Enters Tryz.prog 337 := Enters.of Tryz.func337 (by kernel_rfl) (by kernel_rfl)
theorem en339 : Enters Tryz.prog 339 := Enters.of Tryz.func339 (by kernel_rfl) (by kernel_rfl)
theorem en340 : Enters Tryz.prog 340 := Enters.of Tryz.func340 (by kernel_rfl) (by kernel_rfl)
theorem en379 : Enters Tryz.prog 379 := Enters.of Tryz.func379 (by kernel_rfl) (by kernel_rfl)
theorem en391 : Enters Tryz.prog 391 := Enters.of Tryz.func391 (by kernel_rfl) (by kernel_rfl)
end Go.Fx
