/- Rules for walks, pure facts of the program, contracts of its functions: Shelf SortL ShelfC SortC PartsW. -/
import Derived.Shelf.Strconv.Itoa3
import Derived.Shelf.Strings.Repeat
import Derived.Ground.Names2Prog
import Derived.Test.YtkgboabmjahndaaGreatDoorProg
import Derived.Shelf.SlGeneric
import Derived.Shelf.SlSortCmp.WholeK
import Derived.Shelf.SlSortCmp.NoneTotal
import Derived.Ground.SlsfProg
import Derived.Test.YtkgboabmjahndaaGreatDoorMC
/-
  DERIVED: THE SHELF's CONTRACTS AT THIS DUMP, IN PLAIN WORDS (tools/lay-plain.mjs out of 'YtkgboabmjahndaaGreatDoorShelf0.lean', which tools/lay-shelf.mjs wrote): THE SAME DECLARATIONS UNDER THE SAME NAMES: 'import', 'namespace', 'open', 'def', 'theorem' AND NOTHING ELSE: no command of the shelf's: FOR A HAND-IN. Each laying: the table of numbers ('.._ren') and one theorem, a field a fact of the dump's own or the kernel's comparison; each contract: ONE APPLICATION.
-/
namespace Go.Proofs
open Go.Shelf
def Tryz.laysM171_ren : Go.Shelf.Ren := ⟨fun | 171 => 85 | 243 => 157 | 246 => 216 | 283 => 249 | 284 => 250 | 285 => 251 | 286 => 252 | 129 => 264 | 317 => 282 | 318 => 283 | 319 => 284 | 320 => 285 | 337 => 312 | 338 => 313 | n => n, fun | 3 => 3 | 9 => 9 | 2 => 2 | 4 => 4 | 171 => 304 | 0 => 0 | 53 => 274 | 37 => 28 | 5 => 5 | 173 => 307 | 212 => 350 | 51 => 271 | 20 => 20 | 213 => 351 | 46 => 211 | 232 => 390 | 233 => 391 | n => n, fun | 17 => 2 | 18 => 4 | 19 => 5 | n => n⟩
theorem Tryz.laysM171 : Go.Proofs.LaysM.n171 Tryz.prog Tryz.laysM171_ren := {
  mixed := by kernel_rfl
  f129 := Tryz.func264.trans (congrArg some (by kernel_rfl))
  f171 := Tryz.func85.trans (congrArg some (by kernel_rfl))
  f243 := Tryz.func157.trans (congrArg some (by kernel_rfl))
  f246 := Tryz.func216.trans (congrArg some (by kernel_rfl))
  f283 := Tryz.func249.trans (congrArg some (by kernel_rfl))
  f284 := Tryz.func250.trans (congrArg some (by kernel_rfl))
  f285 := Tryz.func251.trans (congrArg some (by kernel_rfl))
  f286 := Tryz.func252.trans (congrArg some (by kernel_rfl))
  f317 := Tryz.func282.trans (congrArg some (by kernel_rfl))
  f318 := Tryz.func283.trans (congrArg some (by kernel_rfl))
  f319 := Tryz.func284.trans (congrArg some (by kernel_rfl))
  f320 := Tryz.func285.trans (congrArg some (by kernel_rfl))
  f337 := Tryz.func312.trans (congrArg some (by kernel_rfl))
  f338 := Tryz.func313.trans (congrArg some (by kernel_rfl))
  t0 := Tryz.underlying0
  a0 := Tryz.isAgg0
  z0 := Tryz.sizeOf0
  v0 := Tryz.zeroValue0
  t2 := Tryz.underlying2
  a2 := Tryz.isAgg2
  z2 := Tryz.sizeOf2
  v2 := Tryz.zeroValue2
  t3 := Tryz.underlying3
  a3 := Tryz.isAgg3
  z3 := Tryz.sizeOf3
  v3 := Tryz.zeroValue3
  t4 := Tryz.underlying4
  a4 := Tryz.isAgg4
  z4 := Tryz.sizeOf4
  v4 := Tryz.zeroValue4
  t5 := Tryz.underlying5
  a5 := Tryz.isAgg5
  z5 := Tryz.sizeOf5
  v5 := Tryz.zeroValue5
  t9 := Tryz.underlying9
  a9 := Tryz.isAgg9
  z9 := Tryz.sizeOf9
  v9 := Tryz.zeroValue9
  t20 := Tryz.underlying20
  a20 := Tryz.isAgg20
  z20 := Tryz.sizeOf20
  v20 := Tryz.zeroValue20
  t37 := Tryz.underlying28
  a37 := Tryz.isAgg28
  z37 := Tryz.sizeOf28
  v37 := Tryz.zeroValue28
  t46 := Tryz.underlying211
  a46 := Tryz.isAgg211
  z46 := Tryz.sizeOf211
  v46 := Tryz.zeroValue211
  t51 := Tryz.underlying271
  a51 := Tryz.isAgg271
  z51 := Tryz.sizeOf271
  v51 := Tryz.zeroValue271
  t53 := Tryz.underlying274
  a53 := Tryz.isAgg274
  z53 := Tryz.sizeOf274
  v53 := Tryz.zeroValue274
  t171 := Tryz.underlying304
  a171 := Tryz.isAgg304
  z171 := Tryz.sizeOf304
  v171 := Tryz.zeroValue304
  t173 := Tryz.underlying307
  a173 := Tryz.isAgg307
  z173 := Tryz.sizeOf307
  v173 := Tryz.zeroValue307
  t212 := Tryz.underlying350
  a212 := Tryz.isAgg350
  z212 := Tryz.sizeOf350
  v212 := Tryz.zeroValue350
  t213 := Tryz.underlying351
  a213 := Tryz.isAgg351
  z213 := Tryz.sizeOf351
  t232 := Tryz.underlying390
  a232 := Tryz.isAgg390
  z232 := Tryz.sizeOf390
  v232 := Tryz.zeroValue390
  t233 := Tryz.underlying391
  a233 := Tryz.isAgg391
  z233 := Tryz.sizeOf391
  v233 := Tryz.zeroValue391
  g17 := by kernel_rfl
  g18 := by kernel_rfl
  g19 := by kernel_rfl
  i0 := by kernel_rfl
  i2 := by kernel_rfl
  i3 := by kernel_rfl
  i4 := by kernel_rfl
  i5 := by kernel_rfl
  i9 := by kernel_rfl
  i20 := by kernel_rfl
  i37 := by kernel_rfl
  i46 := by kernel_rfl
  i51 := by kernel_rfl
  i53 := by kernel_rfl
  i171 := by kernel_rfl
  i173 := by kernel_rfl
  i212 := by kernel_rfl
  i232 := by kernel_rfl
  i233 := by kernel_rfl
  m17 := by kernel_rfl
  m18 := by kernel_rfl
  m19 := by kernel_rfl }
open Go.RowKit Go.Sort Go.Lib in
/-- strconv.Itoa: "Itoa is equivalent to FormatInt(int64(i), 10).": i's DECIMAL NUMERAL ('Lib.itoa': a '-' where i is negative, then the digits), FOR EVERY int. The world behind the call: the world before it, new blocks behind the heap (the library's 'var a [24]byte'), draws. (LAID: no walk: one application.) -/
theorem Tryz.strconv_Itoa (n : Int) (h0 : -9223372036854775808 ≤ n) (h1 : n ≤ 9223372036854775807) (w : World) (htab : Lib.TabIs Tryz.prog w "internal/strconv.uint64pow10" .u64 Lib.pow10Tab) :
    Calls Tryz.prog 85 #[.int .i64 n] w fun e w' => e = .returned (.string ⟨(Lib.itoa n).toArray⟩) ∧ ∃ k os, w' = grow (w.drewN k) os := Any.strconv_Itoa Tryz.laysM171 n h0 h1 w htab
def Tryz.lays105_ren : Go.Shelf.Ren := ⟨fun | 105 => 86 | 212 => 158 | 99 => 58 | 165 => 159 | 166 => 160 | 170 => 161 | 169 => 162 | 263 => 217 | 264 => 218 | 206 => 119 | 240 => 219 | 241 => 220 | 276 => 253 | 277 => 254 | n => n, fun | 9 => 9 | 3 => 3 | 4 => 4 | 20 => 20 | 0 => 0 | 46 => 211 | 109 => 212 | 5 => 5 | 72 => 216 | 76 => 220 | 51 => 271 | 146 => 272 | 53 => 274 | 148 => 275 | 70 => 214 | 37 => 28 | 75 => 219 | 127 => 277 | 164 => 291 | 80 => 222 | n => n, fun | n => n⟩
theorem Tryz.lays105 : Go.Proofs.Lays.n105 Tryz.prog Tryz.lays105_ren := {
  mixed := by kernel_rfl
  f99 := Tryz.func58.trans (congrArg some (by kernel_rfl))
  f105 := Tryz.func86.trans (congrArg some (by kernel_rfl))
  f165 := Tryz.func159.trans (congrArg some (by kernel_rfl))
  f166 := Tryz.func160.trans (congrArg some (by kernel_rfl))
  f169 := Tryz.func162.trans (congrArg some (by kernel_rfl))
  f170 := Tryz.func161.trans (congrArg some (by kernel_rfl))
  f206 := Tryz.func119.trans (congrArg some (by kernel_rfl))
  f212 := Tryz.func158.trans (congrArg some (by kernel_rfl))
  f240 := Tryz.func219.trans (congrArg some (by kernel_rfl))
  f241 := Tryz.func220.trans (congrArg some (by kernel_rfl))
  f263 := Tryz.func217.trans (congrArg some (by kernel_rfl))
  f264 := Tryz.func218.trans (congrArg some (by kernel_rfl))
  f276 := Tryz.func253.trans (congrArg some (by kernel_rfl))
  f277 := Tryz.func254.trans (congrArg some (by kernel_rfl))
  t0 := Tryz.underlying0
  a0 := Tryz.isAgg0
  z0 := Tryz.sizeOf0
  v0 := Tryz.zeroValue0
  t3 := Tryz.underlying3
  a3 := Tryz.isAgg3
  z3 := Tryz.sizeOf3
  v3 := Tryz.zeroValue3
  t4 := Tryz.underlying4
  a4 := Tryz.isAgg4
  z4 := Tryz.sizeOf4
  v4 := Tryz.zeroValue4
  t5 := Tryz.underlying5
  a5 := Tryz.isAgg5
  z5 := Tryz.sizeOf5
  v5 := Tryz.zeroValue5
  t9 := Tryz.underlying9
  a9 := Tryz.isAgg9
  z9 := Tryz.sizeOf9
  v9 := Tryz.zeroValue9
  t20 := Tryz.underlying20
  a20 := Tryz.isAgg20
  z20 := Tryz.sizeOf20
  v20 := Tryz.zeroValue20
  t37 := Tryz.underlying28
  a37 := Tryz.isAgg28
  z37 := Tryz.sizeOf28
  v37 := Tryz.zeroValue28
  t46 := Tryz.underlying211
  a46 := Tryz.isAgg211
  z46 := Tryz.sizeOf211
  v46 := Tryz.zeroValue211
  t51 := Tryz.underlying271
  a51 := Tryz.isAgg271
  z51 := Tryz.sizeOf271
  v51 := Tryz.zeroValue271
  t53 := Tryz.underlying274
  a53 := Tryz.isAgg274
  z53 := Tryz.sizeOf274
  v53 := Tryz.zeroValue274
  t70 := Tryz.underlying214
  a70 := Tryz.isAgg214
  z70 := Tryz.sizeOf214
  v70 := Tryz.zeroValue214
  t72 := Tryz.underlying216
  a72 := Tryz.isAgg216
  z72 := Tryz.sizeOf216
  v72 := Tryz.zeroValue216
  t75 := Tryz.underlying219
  a75 := Tryz.isAgg219
  z75 := Tryz.sizeOf219
  v75 := Tryz.zeroValue219
  t76 := Tryz.underlying220
  a76 := Tryz.isAgg220
  z76 := Tryz.sizeOf220
  v76 := Tryz.zeroValue220
  t109 := Tryz.underlying212
  a109 := Tryz.isAgg212
  z109 := Tryz.sizeOf212
  v109 := Tryz.zeroValue212
  t127 := Tryz.underlying277
  a127 := Tryz.isAgg277
  z127 := Tryz.sizeOf277
  v127 := Tryz.zeroValue277
  t146 := Tryz.underlying272
  a146 := Tryz.isAgg272
  z146 := Tryz.sizeOf272
  v146 := Tryz.zeroValue272
  t148 := Tryz.underlying275
  a148 := Tryz.isAgg275
  z148 := Tryz.sizeOf275
  v148 := Tryz.zeroValue275
  t164 := Tryz.underlying291
  a164 := Tryz.isAgg291
  z164 := Tryz.sizeOf291
  v164 := Tryz.zeroValue291 }
theorem Tryz.Builder_Extra_105 : Builder.Extra Tryz.prog Tryz.lays105_ren := {
  sizeBuilder := by kernel_rfl
  liesBuilder := by kernel_rfl
  t5 := Tryz.underlying5
  a5 := Tryz.isAgg5
  z5 := Tryz.sizeOf5
  v5 := Tryz.zeroValue5
  infoByte := by kernel_rfl
  cellsByte := by kernel_rfl
  sizeByte := by kernel_rfl
  neB5 := by decide }
open Go.RowKit Go.Lib in
/-- **strings.Repeat: count ≥ 0, the result within one allocation: count copies of s.** (LAID: no walk: one application.) -/
theorem Tryz.strings_Repeat (s : ByteArray) (c : Nat) (w : World) (hc : c ≤ 9223372036854775807) (hlen : s.size * c ≤ 140737488355328) :
    Calls Tryz.prog 86 #[.string s, .int .i64 c] w fun e w' => e = .returned (.string ⟨(Lib.repeatL s.data.toList c).toArray⟩) ∧ Below w.heap.size w w' := Any.strings_Repeat Tryz.lays105 Tryz.Builder_Extra_105 s c w hc hlen
end Go.Proofs
/-
  DERIVED: THE SHELF's CONTRACTS AT THIS DUMP, IN PLAIN WORDS (tools/lay-plain.mjs out of 'YtkgboabmjahndaaGreatDoorSort0.lean', which tools/lay-shelf.mjs wrote): THE SAME DECLARATIONS UNDER THE SAME NAMES: 'import', 'namespace', 'open', 'def', 'theorem' AND NOTHING ELSE: no command of the shelf's: FOR A HAND-IN. Each laying: the table of numbers ('.._ren') and one theorem, a field a fact of the dump's own or the kernel's comparison; each contract: ONE APPLICATION.
-/
namespace Go.Proofs
open Go.Shelf
def Tryz.laysSort_ren : Go.Shelf.Ren := ⟨fun | 6 => 179 | 15 => 224 | 14 => 223 | 28 => 263 | 29 => 264 | 20 => 255 | 21 => 256 | 22 => 257 | 23 => 258 | 24 => 259 | 25 => 260 | 26 => 261 | 27 => 262 | 46 => 286 | 47 => 287 | 48 => 288 | 49 => 289 | 50 => 290 | 57 => 314 | n => n, fun | 22 => 172 | 24 => 176 | 25 => 240 | 3 => 3 | 39 => 211 | 0 => 0 | 53 => 271 | 55 => 274 | 4 => 4 | 46 => 312 | 45 => 311 | 50 => 170 | 5 => 5 | 9 => 9 | 66 => 352 | 70 => 356 | 76 => 375 | 77 => 82 | n => n, fun | n => n⟩
theorem Tryz.laysSort : Go.Proofs.SlLaysF0.n6 Tryz.prog Tryz.laysSort_ren := {
  mixed := by kernel_rfl
  f6 := ⟨Tryz.f179.name, by decide, Tryz.func179.trans (congrArg some (by kernel_rfl))⟩
  f14 := ⟨Tryz.f223.name, by decide, Tryz.func223.trans (congrArg some (by kernel_rfl))⟩
  f15 := Tryz.func224.trans (congrArg some (by kernel_rfl))
  f20 := ⟨Tryz.f255.name, by decide, Tryz.func255.trans (congrArg some (by kernel_rfl))⟩
  f21 := ⟨Tryz.f256.name, by decide, Tryz.func256.trans (congrArg some (by kernel_rfl))⟩
  f22 := ⟨Tryz.f257.name, by decide, Tryz.func257.trans (congrArg some (by kernel_rfl))⟩
  f23 := ⟨Tryz.f258.name, by decide, Tryz.func258.trans (congrArg some (by kernel_rfl))⟩
  f24 := ⟨Tryz.f259.name, by decide, Tryz.func259.trans (congrArg some (by kernel_rfl))⟩
  f25 := ⟨Tryz.f260.name, by decide, Tryz.func260.trans (congrArg some (by kernel_rfl))⟩
  f26 := ⟨Tryz.f261.name, by decide, Tryz.func261.trans (congrArg some (by kernel_rfl))⟩
  f27 := ⟨Tryz.f262.name, by decide, Tryz.func262.trans (congrArg some (by kernel_rfl))⟩
  f28 := Tryz.func263.trans (congrArg some (by kernel_rfl))
  f29 := Tryz.func264.trans (congrArg some (by kernel_rfl))
  f46 := ⟨Tryz.f286.name, by decide, Tryz.func286.trans (congrArg some (by kernel_rfl))⟩
  f47 := Tryz.func287.trans (congrArg some (by kernel_rfl))
  f48 := Tryz.func288.trans (congrArg some (by kernel_rfl))
  f49 := ⟨Tryz.f289.name, by decide, Tryz.func289.trans (congrArg some (by kernel_rfl))⟩
  f50 := ⟨Tryz.f290.name, by decide, Tryz.func290.trans (congrArg some (by kernel_rfl))⟩
  f57 := ⟨Tryz.f314.name, by decide, Tryz.func314.trans (congrArg some (by kernel_rfl))⟩
  t0 := Tryz.underlying0
  a0 := Tryz.isAgg0
  z0 := Tryz.sizeOf0
  v0 := Tryz.zeroValue0
  t3 := Tryz.underlying3
  a3 := Tryz.isAgg3
  z3 := Tryz.sizeOf3
  v3 := Tryz.zeroValue3
  t4 := Tryz.underlying4
  a4 := Tryz.isAgg4
  z4 := Tryz.sizeOf4
  v4 := Tryz.zeroValue4
  t5 := Tryz.underlying5
  a5 := Tryz.isAgg5
  z5 := Tryz.sizeOf5
  v5 := Tryz.zeroValue5
  t9 := Tryz.underlying9
  a9 := Tryz.isAgg9
  z9 := Tryz.sizeOf9
  v9 := Tryz.zeroValue9
  t22 := Tryz.underlying172
  a22 := Tryz.isAgg172
  z22 := Tryz.sizeOf172
  v22 := Tryz.zeroValue172
  t25 := Tryz.underlying240
  a25 := Tryz.isAgg240
  z25 := Tryz.sizeOf240
  v25 := Tryz.zeroValue240
  t39 := Tryz.underlying211
  a39 := Tryz.isAgg211
  z39 := Tryz.sizeOf211
  v39 := Tryz.zeroValue211
  t45 := Tryz.underlying311
  a45 := Tryz.isAgg311
  z45 := Tryz.sizeOf311
  v45 := Tryz.zeroValue311
  t46 := Tryz.underlying312
  a46 := Tryz.isAgg312
  z46 := Tryz.sizeOf312
  v46 := Tryz.zeroValue312
  t50 := Tryz.underlying170
  a50 := Tryz.isAgg170
  z50 := Tryz.sizeOf170
  v50 := Tryz.zeroValue170
  t53 := Tryz.underlying271
  a53 := Tryz.isAgg271
  z53 := Tryz.sizeOf271
  v53 := Tryz.zeroValue271
  t55 := Tryz.underlying274
  a55 := Tryz.isAgg274
  z55 := Tryz.sizeOf274
  v55 := Tryz.zeroValue274
  t66 := Tryz.underlying352
  a66 := Tryz.isAgg352
  z66 := Tryz.sizeOf352
  v66 := Tryz.zeroValue352
  t70 := Tryz.underlying356
  a70 := Tryz.isAgg356
  z70 := Tryz.sizeOf356
  v70 := Tryz.zeroValue356
  t76 := Tryz.underlying375
  a76 := Tryz.isAgg375
  z76 := Tryz.sizeOf375
  v76 := Tryz.zeroValue375
  t77 := Tryz.underlying82
  a77 := Tryz.isAgg82
  z77 := Tryz.sizeOf82
  v77 := Tryz.zeroValue82 }
end Go.Proofs
set_option linter.unusedVariables false
namespace Go.Fx
open Go Go.Proofs

/-! ### Contracts of Go's library, told as contracts of ours -/
theorem Ok.grow {I : Imm} {H : List HA} {w : World} (k : Ok I H w) (os : Array Obj) : Ok I H (Sort.grow w os) :=
  k.kept rfl rfl rfl (fun b o h => by
    have := (Array.getElem?_eq_some_iff.1 h).1
    show (w.heap ++ os)[b]? = some o
    rw [Array.getElem?_append_left this]; exact h)
theorem Ok.belowW {I : Imm} {H : List HA} {w w' : World} (k : Ok I H w) (h : RowKit.Below w.heap.size w w') : Ok I H w' :=
  k.kept h.os h.tape h.output (fun b o e => by
    rw [h.block b (Array.getElem?_eq_some_iff.1 e).1]; exact e)
theorem tab_pow10 {I : Imm} {H : List HA} {w : World} (k : Ok I H w) : Lib.TabIs Tryz.prog w "internal/strconv.uint64pow10" .u64 Lib.pow10Tab := by
  have hg : Tryz.prog.globalNamed "internal/strconv.uint64pow10" = some 2 := by kernel_rfl
  obtain ⟨c, t, fr, e, hc⟩ := I.laid (2, _) (List.mem_cons_of_mem _ List.mem_cons_self)
  have h := k.imm _ _ e
  unfold Lib.TabIs World.var?
  rw [hg]
  simp only [Option.bind_some]
  simp only at h
  rw [h]
  simp only
  congr 1
  apply Array.ext'
  rw [hc]
  rfl
theorem itoaC (n : Int) (H : List HA) (h0 : 0 ≤ n) (h1 : n ≤ 999) : AC Tryz.prog 85 [I n] H (fun r H' => r = str (bs (digR n (digsOf n))) ∧ H' = H) := by
  intro I w vs ha ho
  obtain ⟨v, rfl⟩ : ∃ v, vs = [v] := by
    match vs, ha with
    | [v], _ => exact ⟨v, rfl⟩
    | [], h => exact h.elim
    | _ :: _ :: _, h => exact h.2.elim
  cases val_eq ha.1
  refine (Tryz.strconv_Itoa n (by omega) (by omega) w (tab_pow10 ho)).mono ?_
  rintro e w' ⟨rfl, k, os, rfl⟩
  exact ⟨I, _, H, _, rfl, Imm.le_refl _, by rw [itoa_digs h0 h1]; rfl, (ho.drewN k).grow os, rfl, rfl⟩
theorem repeatL_one (c : UInt8) : ∀ k, Lib.repeatL [c] k = List.replicate k c
  | 0 => rfl
  | k + 1 => by rw [Lib.repeatL, repeatL_one c k]; rfl
theorem repeatC (c : UInt8) (k : Nat) (H : List HA) (h : k ≤ 100) : AC Tryz.prog 86 [str (bs [c]), I (k : Int)] H (fun r H' => r = str (bs (List.replicate k c)) ∧ H' = H) := by
  intro I w vs ha ho
  obtain ⟨u, v, rfl⟩ : ∃ u v, vs = [u, v] := by
    match vs, ha with
    | [u, v], _ => exact ⟨u, v, rfl⟩
    | [_], h => exact h.2.elim
    | [], h => exact h.elim
    | _ :: _ :: _ :: _, h => exact h.2.2.elim
  cases val_eq ha.1
  cases val_eq ha.2.1
  refine (Tryz.strings_Repeat (bs [c]) k w (by omega) (by rw [bs_size]; simp; omega)).mono ?_
  rintro e w' ⟨rfl, hb⟩
  exact ⟨I, _, H, _, rfl, Imm.le_refl _, by rw [bs_toList, repeatL_one]; rfl, ho.belowW hb, rfl, rfl⟩
end Go.Fx
set_option linter.unusedVariables false
namespace Go.Fx
open Go Go.Proofs Go.Sort Go.Shelf

theorem flatMap_get {α : Type} [Inhabited α] {enc : α → List Value} {k : Nat} (hk : ∀ x, (enc x).length = k) (h0 : 0 < k) : ∀ (l : List α) (j : Nat), j < l.length * k → (l.flatMap enc)[j]? = some ((enc l.toArray[j / k]!)[j % k]!)
  | [], j, h => by simp at h
  | x :: l, j, h => by
    rw [List.flatMap_cons]
    by_cases hj : j < k
    · rw [List.getElem?_append_left (by rw [hk]; exact hj), Nat.div_eq_of_lt hj, Nat.mod_eq_of_lt hj]
      rw [List.getElem?_eq_getElem (by rw [hk]; exact hj)]
      congr 1
      show (enc x)[j]'_ = (enc x)[j]!
      rw [getElem!_pos (enc x) j (by rw [hk]; exact hj)]
    · rw [List.getElem?_append_right (by rw [hk]; omega), hk]
      have h2 : j - k < l.length * k := by rw [List.length_cons, Nat.add_mul, Nat.one_mul] at h; omega
      rw [flatMap_get hk h0 l (j - k) h2]
      have e1 : j / k = (j - k) / k + 1 := by
        conv => lhs; rw [show j = (j - k) + k by omega]
        exact Nat.add_div_right _ h0
      have e2 : j % k = (j - k) % k := by
        conv => lhs; rw [show j = (j - k) + k by omega]
        exact Nat.add_mod_right _ _
      rw [e1, e2]
      have e3 : (x :: l).toArray[(j - k) / k + 1]! = l.toArray[(j - k) / k]! := by simp
      rw [e3]
theorem flatMap_len {α : Type} {enc : α → List Value} {k : Nat} (hk : ∀ x, (enc x).length = k) : ∀ l : List α, (l.flatMap enc).length = l.length * k
  | [] => by simp
  | x :: l => by rw [List.flatMap_cons, List.length_append, hk, flatMap_len hk l, List.length_cons, Nat.add_mul, Nat.one_mul, Nat.add_comm]

/-- What the sort leaves: the block's cells. -/
theorem heap_sorted {α : Type} [Inhabited α] (enc : α → List Value) (k : Nat) (hk : ∀ x, (enc x).length = k) (h0 : 0 < k) {w : World} {b m : Nat} {c : Array Value} {e : TypeId} {l' : List α} {os : Array Obj} (hb : w.heap[b]? = some (.cells c e (0, 0))) (hl : l'.length * k ≤ c.size) :
    ∃ c' : Array Value, (sortWorldK enc k w b 0 m l'.toArray os).heap[b]? = some (.cells c' e (0, 0)) ∧ c'.size = c.size ∧ c'.toList.take (l'.length * k) = l'.flatMap enc ∧ ∀ d, d ≠ b → ∀ o, w.heap[d]? = some o → (sortWorldK enc k w b 0 m l'.toArray os).heap[d]? = some o := by
  have hblt := (Array.getElem?_eq_some_iff.1 hb).1
  have hmod : ∀ d : Nat, (sortWorldK enc k w b 0 m l'.toArray os).heap[d]? = if d < w.heap.size then (w.heap.modify b (onCells (putCells id 0 (flatK enc k l'.toArray))))[d]? else (sortWorldK enc k w b 0 m l'.toArray os).heap[d]? := by
    intro d
    by_cases hd : d < w.heap.size
    · rw [if_pos hd]
      show (((Sort.ahead w m).heap.modify b _) ++ os)[d]? = _
      rw [Array.getElem?_append_left (by simpa [Sort.ahead] using hd)]
      rfl
    · rw [if_neg hd]
  refine ⟨putCells id 0 (flatK enc k l'.toArray) c, ?_, ?_, ?_, ?_⟩
  · rw [hmod b, if_pos hblt, Array.getElem?_modify, if_pos rfl, hb]
    rfl
  · simp [putCells]
  · apply List.ext_getElem?
    intro j
    by_cases hj : j < l'.length * k
    · rw [List.getElem?_take, if_pos hj, flatMap_get hk h0 l' j hj]
      have hjc : j < c.size := by omega
      rw [Array.getElem?_toList]
      unfold putCells
      rw [Array.getElem?_mapIdx, Array.getElem?_eq_getElem hjc, Option.map_some]
      congr 1
      rw [if_pos ⟨Nat.zero_le _, by simpa using hj⟩]
      simp only [Nat.sub_zero, id]
      exact get_flatK enc k l'.toArray j (by simpa using hj)
    · rw [List.getElem?_take, if_neg hj, List.getElem?_eq_none]
      rw [flatMap_len hk]; omega
  · intro d hd o ho
    have hdlt := (Array.getElem?_eq_some_iff.1 ho).1
    rw [hmod d, if_pos hdlt, Array.getElem?_modify, if_neg (Ne.symm hd), ho]

/-- Parts whose objects are in reach. -/
abbrev BPart := { x : PPart // 0 ≤ x.d.o ∧ x.d.o ≤ 1099511627776 }
instance : Inhabited BPart := ⟨⟨⟨⟨0, 0, 0, []⟩, none, 0, 0⟩, by decide⟩⟩
def BPart.enc (x : BPart) : List Value := x.1.enc
def ppLt (x y : BPart) : Int := x.1.d.o - y.1.d.o
theorem ppLt_iff (x y : BPart) : ltOf ppLt x y = decide (x.1.d.o < y.1.d.o) := by
  show decide (x.1.d.o - y.1.d.o < 0) = _
  exact decide_eq_decide.2 (by omega)
theorem ppSWO : SWO (ltOf ppLt) where
  irrefl x := by rw [ppLt_iff]; simp
  trans x y z h1 h2 := by rw [ppLt_iff] at *; simp at *; omega
  ntrans x y z h1 h2 := by rw [ppLt_iff] at *; simp at *; omega
theorem ppEnc_len (x : BPart) : (BPart.enc x).length = 4 := rfl
theorem ppEnc_one (x : BPart) : ∀ v ∈ BPart.enc x, v.oneCell' = true := by
  intro v hv
  simp only [BPart.enc, PPart.enc, List.mem_cons, List.mem_nil_iff, or_false] at hv
  rcases hv with rfl | rfl | rfl | rfl <;> rfl
theorem bparts : ∀ l : List PPart, (∀ x ∈ l, 0 ≤ x.d.o ∧ x.d.o ≤ 1099511627776) → ∃ l' : List BPart, l'.map Subtype.val = l
  | [], _ => ⟨[], rfl⟩
  | x :: l, h => by
    obtain ⟨l', hl⟩ := bparts l (fun y hy => h y (List.mem_cons_of_mem _ hy))
    exact ⟨⟨x, h x List.mem_cons_self⟩ :: l', by rw [List.map_cons, hl]⟩
set_option maxHeartbeats 400000 in
theorem partsCmp (a1 a2 a3 b1 b2 b3 : Int) (va vb : Value) (W : World) (ha : 0 ≤ a1) (ha' : a1 ≤ 1099511627776) (hb : 0 ≤ b1) (hb' : b1 ≤ 1099511627776) :
    Calls Tryz.prog 180 #[.agg #[.int .i64 a1, .int .i64 a2, .int .i64 a3, va], .agg #[.int .i64 b1, .int .i64 b2, .int .i64 b3, vb]] W fun e w' => e = .returned (.int .i64 (a1 - b1)) ∧ ∃ q os', w' = grow (W.drewN q) os' := by
  go_enter Tryz.func180, Tryz.ntmps180
  go_wp2
  go_ret
  exact ⟨rfl, 0, _, by rw [alloc_eq_grow, alloc_eq_grow, grow_grow]; rfl⟩
theorem ppCmp (blk off size : Nat) (w : World) : CmpLays Tryz.prog 180 #[] BPart.enc 4 ppLt blk off size w :=
  fun _ _ _ _ x y => partsCmp _ _ _ _ _ _ _ _ _ x.2.1 x.2.2 y.2.1 y.2.2
theorem flat_b (l : List BPart) : l.flatMap BPart.enc = (l.map Subtype.val).flatMap PPart.enc := by rw [List.flatMap_map]; rfl

/-- slices.SortFunc of parts: the same parts, by their objects. -/
theorem sortC (l : List PPart) (v : Value) (H : List HA) (hb : ∀ x ∈ l, 0 ≤ x.d.o ∧ x.d.o ≤ 1099511627776) (hlen : l.length ≤ 100000) :
    AC Tryz.prog 179 [.val v, .val (.func (.func 180) #[] #[])] (.osl v 176 4 (ppRows l) :: H) (fun r H' => ∃ l' : List PPart, r = .tup [] ∧ H' = .osl v 176 4 (ppRows l') :: H ∧ l'.Perm l ∧ l'.Pairwise (fun x y => x.d.o ≤ y.d.o)) := by
  intro I w vs ha ho
  obtain ⟨u1, u2, rfl⟩ : ∃ u v, vs = [u, v] := by
    match vs, ha with
    | [u, v], _ => exact ⟨u, v, rfl⟩
    | [_], h => exact h.2.elim
    | [], h => exact h.elim
    | _ :: _ :: _ :: _, h => exact h.2.2.elim
  cases val_eq ha.1
  cases val_eq ha.2.1
  have eg : ∀ args w, (callFunc 180 args).run Tryz.prog w = .ok (.enter 180 args) w := enters_of Tryz.func180 (by kernel_rfl) rfl
  rcases Nat.eq_zero_or_pos l.length with h0 | h0
  · have hl : l = [] := List.eq_nil_of_length_eq_zero h0
    subst hl
    obtain ⟨A, cap, e1, _⟩ := osl_slice ho (k := 0) rfl
    simp only [List.map_nil, List.length_nil] at e1
    subst e1
    have hcon := AnyF.slices_SortFunc_none Tryz.laysSort A cap (.func (.func 180) #[] #[]) w
    refine Calls.mono hcon ?_
    rintro e w' ⟨rfl, rfl⟩
    exact ⟨I, .tup [], _, _, rfl, Imm.le_refl _, ⟨[], rfl, trivial⟩, ho, [], rfl, rfl, .refl _, .nil⟩
  · obtain ⟨l', rfl⟩ := bparts l hb
    rw [List.length_map] at h0 hlen
    obtain ⟨f, ⟨f1, f2, rfl, k1, k2⟩, hl⟩ := ho.own
    rcases k1 with ⟨A, e1, e2, e3⟩ | ⟨b, cap, cs, rfl, rfl, h3, h4, h5, h6, h7⟩
    · have := congrArg List.length e2; simp only [List.length_map, List.length_nil] at this; omega
    · have hbk := (hl.2 (b, .cells cs 176 (0, 0)) (by simp)).1
      simp only at hbk
      simp only [List.length_map] at h3 h5 h6
      rw [pp_flat] at h6
      have hcs := AVs_vals h6.1
      rw [← flat_b] at hcs
      have hsz : l'.length * 4 ≤ cs.size := Nat.le_trans (Nat.mul_le_mul_right _ h3) h5
      have hH : HoldsK BPart.enc 4 w b 0 l'.toArray := by
        intro j hj
        rw [size_flatK, List.size_toArray] at hj
        have hg := flatMap_get (enc := BPart.enc) (k := 4) ppEnc_len (by omega) l' j hj
        rw [← hcs, List.getElem?_take, if_pos hj, Array.getElem?_toList] at hg
        have hgf := get_flatK BPart.enc 4 l'.toArray j (by simpa using hj)
        refine ⟨?_, ?_⟩
        · simp only [World.cell?, hbk, Nat.zero_add]
          simp only [Option.isSome_none, Bool.false_eq_true, if_false, id]
          rw [hg, hgf]
        · simp [World.frozen?, hbk]
      have hcon := AnyQ.slices_SortFunc Tryz.laysSort 4 Tryz.isAgg176 Tryz.sizeOf176 BPart.enc ppEnc_len ppEnc_one ppLt ppSWO 180 #[] b 0 cap l'.toArray w eg (ppCmp b 0 _ w) hH (Array.getElem?_eq_some_iff.1 hbk).1 (by simp; omega)
      rw [List.size_toArray] at hcon
      simp only [List.length_map]
      refine Calls.mono hcon ?_
      rintro e w' ⟨rfl, d', m, os, hp, hs, rfl⟩
      obtain ⟨hp1, _, hp2⟩ := hp
      rw [List.size_toArray] at hp1
      obtain ⟨l2, rfl⟩ : ∃ l2 : List BPart, d' = l2.toArray := ⟨d'.toList, by simp⟩
      rw [List.size_toArray] at hp1
      have hperm : l2.Perm l' := by
        have : (l2.toArray.extract 0 l'.length).toList = l2 := by rw [← hp1]; simp
        rw [this] at hp2
        simpa using hp2
      have hsort : l2.Pairwise (fun x y => x.1.d.o ≤ y.1.d.o) := by
        rw [List.pairwise_iff_getElem]
        intro i j hi hj hij
        have := hs i j (Nat.zero_le _) hij (by rw [← hp1]; exact hj)
        rw [ppLt_iff] at this
        simp only [decide_eq_false_iff_not] at this
        rw [getElem!_pos _ i (by simpa using hi), getElem!_pos _ j (by simpa using hj)] at this
        simp at this
        omega
      obtain ⟨c', hb', hsz', htk, hoth⟩ := heap_sorted BPart.enc 4 ppEnc_len (by omega) (m := m) (os := os) (l' := l2) hbk (by rw [hp1]; exact hsz)
      refine ⟨I, .tup [], .osl _ 176 4 (ppRows (l2.map Subtype.val)) :: H, _, rfl, Imm.le_refl _, ⟨[], rfl, trivial⟩, ?_, l2.map Subtype.val, rfl, rfl, hperm.map _, ?_⟩
      · have ho' : Ok I (.osl (.slice (some ⟨b, 0, none⟩) l'.length cap) 176 4 (ppRows (l'.map Subtype.val)) :: H) w := by have := ho; simp only [List.length_map] at this; exact this
        refine Ok.change (w := w) (A := .osl (.slice (some ⟨b, 0, none⟩) l'.length cap) 176 4 (ppRows (l'.map Subtype.val))) (b := b) (o := .cells cs 176 (0, 0)) (o' := .cells c' 176 (0, 0)) ho' rfl rfl rfl ?_ hb' hoth ?_
        · rintro h1 hpp hw'
          rcases hpp with ⟨A'', e1, e2, e3⟩ | ⟨b2, cap2, cs2, rfl, e1, _⟩
          · have := congrArg List.length e2; simp only [List.length_map, List.length_nil] at this; omega
          · injection e1 with e1 e2 e3
            injection e1 with e1
            injection e1 with e1
            subst e1
            have := hw' _ (List.mem_singleton.2 rfl)
            simp only at this
            rw [hbk] at this
            rw [Option.some.inj this]
        · refine .inr ⟨b, cap, c', rfl, by simp [hp1], by simpa [hp1] using h3, h4, by rw [hsz']; exact h5, ?_, ?_⟩
          · rw [pp_flat, ← flat_b]
            have : (ppRows (l2.map Subtype.val)).length = l2.length := by simp
            rw [this, htk]
            refine ⟨AVs.vals _, fun c hc => ?_⟩
            obtain ⟨x, _, hx⟩ := List.mem_flatMap.1 hc
            exact ppEnc_one x c hx
          · intro r hr
            obtain ⟨x, _, rfl⟩ := List.mem_map.1 hr
            rfl
      · exact List.pairwise_map.2 hsort
end Go.Fx
set_option linter.unusedVariables false
namespace Go.Fx
open Go Go.Proofs

/-! ### What the walk of plan.parts asks -/
theorem idx_map {α β : Type} (f : α → β) (p : β → Bool) : ∀ l : List α, idx p (l.map f) = idx (fun x => p (f x)) l
  | [] => rfl
  | x :: l => by simp only [List.map_cons, idx, idx_map f p l]
theorem pp_get {l : List PPart} {k : Nat} {y : PPart} (h : l[k]? = some y) : (ppRows l)[(k : Int).toNat]? = some y.cells := by rw [Int.toNat_natCast, List.getElem?_map, h]; rfl
theorem set_get_same {α : Type} {l : List α} {k : Nat} {x y : α} (h : l[k]? = some x) : (l.set k y)[k]? = some y := by
  rw [List.getElem?_set, if_pos rfl, if_pos (List.getElem?_eq_some_iff.1 h).1]
theorem pp_set {l : List PPart} {k : Nat} {y : PPart} {r : List AV} (h : y.cells = r) : (ppRows l).set (k : Int).toNat r = ppRows (l.set k y) := by
  rw [Int.toNat_natCast, ← h, ppRows, ppRows, List.map_set]
theorem cons_erase_perm {α : Type} : ∀ {l : List α} {k : Nat} {y : α}, l[k]? = some y → l.Perm (y :: l.eraseIdx k)
  | [], k, y, h => by simp at h
  | x :: l, 0, y, h => by simp at h; subst h; exact .refl _
  | x :: l, k + 1, y, h => by
    have ih := cons_erase_perm (l := l) (k := k) (y := y) (by simpa using h)
    exact (ih.cons x).trans (.swap _ _ _)
theorem perm_out {α : Type} (F : α → HA) {l : List α} {k : Nat} {y : α} (h : l[k]? = some y) (H : List HA) : (l.map F ++ H).Perm (F y :: ((l.eraseIdx k).map F ++ H)) := by
  rw [← List.cons_append, ← List.map_cons]
  exact List.Perm.append_right H ((cons_erase_perm h).map F)
theorem perm_in {α : Type} (F : α → HA) {l : List α} {k : Nat} {x y : α} (h : l[k]? = some x) (H : List HA) : (F y :: ((l.eraseIdx k).map F ++ H)).Perm ((l.set k y).map F ++ H) := by
  have := perm_out F (set_get_same (y := y) h) H
  rw [List.eraseIdx_set_eq] at this
  exact this.symm
def PBounds (i : Nat) (l : List PPart) : Prop := l.length ≤ i ∧ ∀ y ∈ l, 0 ≤ y.d.n ∧ y.d.n ≤ 512 * (i : Int) ∧ y.d.ps.length ≤ i ∧ 0 ≤ y.d.o ∧ y.d.o ≤ 1099511627776
theorem pb_step {i : Nat} {l l1 : List PPart} {k : Nat} {y2 : PPart} (h : PBounds i l) (hl : l1 = l ∨ ∃ z, l1 = l ++ [z]) (hz : ∀ z : PPart, l1 = l ++ [z] → 0 ≤ z.d.n ∧ z.d.n ≤ 512 * (i : Int) ∧ z.d.ps.length ≤ i ∧ 0 ≤ z.d.o ∧ z.d.o ≤ 1099511627776)
    (h2 : 0 ≤ y2.d.n ∧ y2.d.n ≤ 512 * ((i : Int) + 1) ∧ y2.d.ps.length ≤ i + 1 ∧ 0 ≤ y2.d.o ∧ y2.d.o ≤ 1099511627776) : PBounds (i + 1) (l1.set k y2) := by
  obtain ⟨a, b⟩ := h
  have hb1 : ∀ y ∈ l1, 0 ≤ y.d.n ∧ y.d.n ≤ 512 * (i : Int) ∧ y.d.ps.length ≤ i ∧ 0 ≤ y.d.o ∧ y.d.o ≤ 1099511627776 := by
    intro y hy
    rcases hl with rfl | ⟨z, hzl⟩
    · exact b y hy
    · have := hz z hzl
      rw [hzl] at hy
      rcases List.mem_append.1 hy with hy | hy
      · exact b y hy
      · rw [List.mem_singleton.1 hy]; exact this
  refine ⟨?_, fun x hx => ?_⟩
  · rw [List.length_set]
    rcases hl with rfl | ⟨z, rfl⟩
    · omega
    · simp; omega
  · rcases List.mem_or_eq_of_mem_set hx with hx | rfl
    · have := hb1 x hx; omega
    · omega
theorem grp_new {L : List PPart} {ps : List Piece} {i : Nat} {x : Piece} {y2 z : PPart} (hg : L.map PPart.d = groupP (ps.take i)) (hx : ps[i]? = some x) (hidx : idx (fun y : PPart => objIs x.o y.d) L < 0) (hy : y2.d = ⟨x.o, x.off, x.len, [x]⟩) :
    ((L ++ [z]).set L.length y2).map PPart.d = groupP (ps.take (i + 1)) := by
  rw [List.take_add_one, hx]
  show _ = groupP (ps.take i ++ [x])
  rw [groupP_snoc, ← hg, addPiece_new (by rw [idx_map]; omega)]
  rw [List.set_append_right _ _ (Nat.le_refl _)]
  simp [hy]
theorem grp_old {L : List PPart} {ps : List Piece} {i k : Nat} {x : Piece} {y y2 : PPart} (hg : L.map PPart.d = groupP (ps.take i)) (hx : ps[i]? = some x) (hidx : idx (fun y : PPart => objIs x.o y.d) L = (k : Int)) (hy : L[k]? = some y)
    (hy2 : y2.d = ⟨y.d.o, y.d.off, y.d.n + x.len, y.d.ps ++ [x]⟩) : (L.set k y2).map PPart.d = groupP (ps.take (i + 1)) := by
  rw [List.take_add_one, hx]
  show _ = groupP (ps.take i ++ [x])
  rw [groupP_snoc, ← hg, addPiece_old (k := k) (x := y.d) (by rw [idx_map]; exact hidx) (by rw [List.getElem?_map, hy]; rfl), List.map_set, hy2]
theorem pp_weak {J : Imm} : ∀ {l : List PPart} {cs : List Value}, (∀ x ∈ l, (AV.sl 4 (pieceRows x.d.ps)).p J x.v) → AVs J (ppRows l).flatten cs → AVs J ((l.map PPart.d).map Part.cells).flatten cs
  | [], cs, _, h => h
  | x :: l, cs, hx, h => by
    have e1 : (ppRows (x :: l)).flatten = x.cells ++ (ppRows l).flatten := rfl
    have e2 : (((x :: l).map PPart.d).map Part.cells).flatten = x.d.cells ++ ((l.map PPart.d).map Part.cells).flatten := rfl
    rw [e1] at h
    rw [e2]
    obtain ⟨c1, c2, rfl, h1, h2⟩ := AVs.split h
    refine AVs.append ?_ (pp_weak (fun y hy => hx y (List.mem_cons_of_mem _ hy)) h2)
    match c1, h1 with
    | [a, b, c, d], h1 =>
      refine ⟨h1.1, h1.2.1, h1.2.2.1, ?_, trivial⟩
      rw [val_eq h1.2.2.2.1]
      exact hx x List.mem_cons_self
/-- slices.SortFunc, its answer told by a value that bears what is known of it. -/
theorem sortCX (l : List PPart) (v : Value) (H : List HA) (hb : ∀ x ∈ l, 0 ≤ x.d.o ∧ x.d.o ≤ 1099511627776) (hlen : l.length ≤ 100000) :
    AC Tryz.prog 179 [.val v, .val (.func (.func 180) #[] #[])] (.osl v 176 4 (ppRows l) :: H) (fun r H' => ∃ l' : { l' : List PPart // l'.Perm l ∧ l'.Pairwise (fun x y => x.d.o ≤ y.d.o) }, r = .tup [] ∧ H' = .osl v 176 4 (ppRows l'.1) :: H) :=
  (sortC l v H hb hlen).mono fun r H' ⟨l', h1, h2, h3, h4⟩ => ⟨⟨l', h3, h4⟩, h1, h2⟩
theorem placeO_le {l : Layout} (h : l.May) {i : Int} (hi : 0 ≤ i) : placeO l i ≤ i := by
  have hf := stripeFacts h hi
  have h1 := (stripe_place h i).1
  rw [← h1]
  have hc := h.2.1
  have e1 := Int.mul_ediv_add_emod (i / l.u) l.c
  have e2 : i / l.u / l.c / (l.o / l.u) * l.c ≤ i / l.u / l.c * l.c := Int.mul_le_mul_of_nonneg_right (Int.ediv_le_self _ hf.stripe.1) (by omega)
  have e3 : i / l.u / l.c * l.c = l.c * (i / l.u / l.c) := Int.mul_comm _ _
  have := hf.unit
  unfold stripeO
  omega
theorem pieces_obj {l : Layout} {off n : Int} (h : l.May) (h0 : 0 ≤ off) (hn : 0 ≤ n) (h512 : off + n ≤ 512) : ∀ p ∈ pieces l off n, 0 ≤ p.o ∧ p.o < 512 := by
  intro p hp
  obtain ⟨h1, h2⟩ := pieces_inv h h0 hn
  have hok := h2 p hp
  have hl := hok.len
  have ha := hok.at0
  have hm : p.at_.toNat ∈ List.range n.toNat := by
    rw [← h1]
    refine List.mem_flatMap.2 ⟨p, hp, ?_⟩
    exact List.mem_map.2 ⟨0, List.mem_range.2 (by omega), by omega⟩
  have hlt := List.mem_range.1 hm
  have ho := (hok.obj 0 (Int.le_refl _) (by omega)).1
  have hle := placeO_le h (i := off + p.at_ + 0) (by omega)
  have hb := (back_place h (i := off + p.at_ + 0) (by omega)).2.1
  rw [ho] at hle hb
  omega
abbrev partRows (l : List Part) : List (List AV) := l.map Part.cells
end Go.Fx
